/- The plain laws that a law needs, with no program in sight. -/
import Derived.Test.YtkfjchmhgpkcbaaGreatW31Ei
set_option linter.unusedVariables false
set_option linter.unusedSimpArgs false
namespace Go.Sw
def inR(lo hi x:Int):Bool:=decide (lo<=x)&&decide (x<=hi)
theorem Qe3(lo hi:Int)(l:List Int)(hl:l.length<=4611686018427387904):Ev (fun n=>F_a n lo hi l) (l.all (inR lo hi)):=by
 have h:Ev (fun n=>F_bg n l lo hi) (l.any fun x=> !inR lo hi x):=by
  unfold F_bg F_eq
  refine Ev.contains l _ (fun n x=>F_ba n x lo hi) hl fun x _=>?_
  unfold F_ba
  refine Ev.bind (v:= !inR lo hi x) ?_ (Qa _)
  refine(Ql fun h=>Qa _).eq ?_
  unfold inR
  rw[Bool.eq_iff_iff]
  simp
 unfold F_a
 refine Ev.bind h ((Qa _).eq ?_)
 rw[List.not_any_eq_all_not]
 simp
def okN(c:Nat):Bool:=(decide (97<=c)&&decide (c<=122))||(decide (48<=c)&&decide (c<=57))||decide (c=95)
def okAN(c:Nat):Bool:=decide (97<=c)&&decide (c<=122)
def okC(c:UInt8):Bool:=okN c.toNat
def okA(c:UInt8):Bool:=okAN c.toNat
def kwL:List (List UInt8):=[[99,111,117,114,115,101],[109,97,116,115],[115,116,97,114,116],[112,97,115,115],[101,110,100],[108,101,103],[116,111],[100,105,115,116,97,110,99,101],[103,117,110],[99,104,105,112],[115,108,111,116],[108,97,112,115],[108,97,112],[99,117,116,111,102,102],[101,120,116,114,97],[119,97,118,101],[111,102,102,101,110,99,101],[111,117,116],[99,97,116,101,103,111,114,121],[112,114,105,122,101],[97,108,108],[116,105,101,115],[105,102],[101,108,115,101],[97,110,100],[111,114],[110,111,116],[111,108,100,101,114],[121,111,117,110,103,101,114],[98,105,98],[100,114,97,119],[102,105,101,108,100],[115,104,111,114,116],[102,97,117,108,116,115],[109,105,115,115,101,115],[115,116,114,97,121,115],[119,105,110,100,111,119],[114,101,115,105,100,117,97,108],[100,114,105,102,116],[112,114,111,116,101,115,116],[102,101,101],[100,101,97,100,108,105,110,101]]
theorem Qk1(c d:Bool):(bif c then some c else some d)=some (c||d):=by cases c<;>rfl
def kwsOf:List UInt8->List (List UInt8)
 |[]=>[]
 |b::l=>(bif b==32&& !(l.dropWhile fun c=>c != 32).isEmpty then[l.takeWhile fun c=>c != 32]else[])++kwsOf l
theorem Qda:∀(l s:List UInt8),(∀c∈s,c≠32)->(s++[32]).isPrefixOf l=((l.takeWhile fun c=>c != 32)==s&& !(l.dropWhile fun c=>c != 32).isEmpty)
 |[],s,h=>by cases s<;>simp
 |b::l,[],h=>by
  by_cases e:b=32
  ·subst e;simp[List.isPrefixOf]
  ·have e1:(b != 32)=true:=by simpa using e
   have e2:(32==b)=false:=by simpa using fun q=>e q.symm
   simp[List.isPrefixOf,List.takeWhile_cons,e1,e2]
 |b::l,c::s,h=>by
  have hc:=h c (by simp)
  have ih:=Qda l s fun d hd=>h d (by simp[hd])
  by_cases e:b=32
  ·subst e
   have:(c==32)=false:=by simpa using hc
   simp[List.isPrefixOf,this]
  ·have e1:(b != 32)=true:=by simpa using e
   simp only[List.cons_append,List.isPrefixOf,List.takeWhile_cons,List.dropWhile_cons,e1,if_true,ih,List.cons_beq_cons]
   by_cases q:c=b
   ·subst q;simp
   ·have q1:(c==b)=false:=by simpa using q
    have q2:(b==c)=false:=by simpa using fun z=>q z.symm
    simp[q1,q2]
theorem contains_cons(b:UInt8)(l t:List UInt8)(ht:t≠[]):Lib.contains (b::l) t=(t.isPrefixOf (b::l)||Lib.contains l t):=by
 unfold Lib.contains
 rw[show Lib.index (b::l) t=if t.isPrefixOf (b::l)then 0 else if Lib.index l t== -1 then-1 else Lib.index l t+1 from rfl]
 cases h:t.isPrefixOf (b::l)with
 |true=>simp
 |false=>
  have:=Lib.index_ge l t
  by_cases q:Lib.index l t= -1
  ·simp[q]
  ·have q1:(Lib.index l t== -1)=false:=by simpa using q
   simp only[q1,Bool.false_or]
   rw[Bool.eq_iff_iff];simp;omega
theorem QbG(s:List UInt8)(h:∀c∈s,c≠32):∀l,Lib.contains l (32::(s++[32]))=(kwsOf l).contains s
 |[]=>by simp[Lib.contains,Lib.index,kwsOf]
 |b::l=>by
  rw[contains_cons b l _ (by simp),QbG s h l]
  simp only[kwsOf,List.isPrefixOf,Qda l s h]
  by_cases e:b=32
  ·subst e
   cases q: !(l.dropWhile fun c=>c != 32).isEmpty with
   |true=>
    simp only[q,beq_self_eq_true,Bool.true_and,Bool.and_true,cond_true,List.cons_append,List.nil_append,List.contains_cons]
    congr 1
    rw[Bool.eq_iff_iff];simp only[beq_iff_eq];exact⟨fun h=>h.symm,fun h=>h.symm⟩
   |false=>simp[q]
  ·have e1:(b==32)=false:=by simpa using e
   have e2:(32==b)=false:=by simpa using fun q=>e q.symm
   simp[e1,e2]
def wordsL:List UInt8:=[32,99,111,117,114,115,101,32,109,97,116,115,32,115,116,97,114,116,32,112,97,115,115,32,101,110,100,32,108,101,103,32,116,111,32,100,105,115,116,97,110,99,101,32,103,117,110,32,99,104,105,112,32,115,108,111,116,32,108,97,112,115,32,108,97,112,32,99,117,116,111,102,102,32,101,120,116,114,97,32,119,97,118,101,32,111,102,102,101,110,99,101,32,111,117,116,32,99,97,116,101,103,111,114,121,32,112,114,105,122,101,32,97,108,108,32,116,105,101,115,32,105,102,32,101,108,115,101,32,97,110,100,32,111,114,32,110,111,116,32,111,108,100,101,114,32,121,111,117,110,103,101,114,32,98,105,98,32,100,114,97,119,32,102,105,101,108,100,32,115,104,111,114,116,32,102,97,117,108,116,115,32,109,105,115,115,101,115,32,115,116,114,97,121,115,32,119,105,110,100,111,119,32,114,101,115,105,100,117,97,108,32,100,114,105,102,116,32,112,114,111,116,101,115,116,32,102,101,101,32,100,101,97,100,108,105,110,101,32]
theorem Qnc:kwsOf wordsL=kwL:=by decide+kernel
def classTab:List Int:=(List.range 256).map fun i=>if 97<=i/\i<=122\/65<=i/\i<=90 then 2 else if 48<=i/\i<=57 then 3 else if i∈[123,125,40,41,91,93,59,44,61,60,62]then 4 else if i∈[32,9,10,13]then 1 else 0
theorem Qhs:Ev F_bu classTab:=by
 unfold F_bu
 refine Ev.bind (Qbb (step:=F_gi 0) 40 (b:=(iter (F_gi 0) 40 (List.replicate 256 0,97)).getD []) (by decide+kernel)) ?_
 refine Ev.bind (Qbb (step:=F_hn 0) 40 (b:=(iter (F_hn 0) 40 ((iter (F_gi 0) 40 (List.replicate 256 0,97)).getD [],48)).getD []) (by decide+kernel)) ?_
 generalize hb:(iter (F_hn 0) 40 ((iter (F_gi 0) 40 (List.replicate 256 0,97)).getD [],48)).getD []=b2
 refine Ev.bind (Qbb (step:=F_ix 0) 40 (b:=(iter (F_ix 0) 40 (b2,0)).getD []) (by subst hb;decide+kernel)) ?_
 refine Ev.bind (Qbb (step:=F_jc 0) 40 (b:=classTab) (by subst hb;decide+kernel)) ?_
 exact Ev.const (by decide+kernel)
theorem Qjd:((List.range 256).all fun i=> !okN i||decide (classTab[i]?=some (if okAN i then 2 else if i=95 then 0 else 3)))=true:=by decide+kernel
theorem Qk0{c:UInt8}(h:okC c=true):Qct 256 classTab (c.toNat:Int)=some (if okA c then 2 else if c.toNat=95 then 0 else 3):=by
 have h1:=List.all_eq_true.1 Qjd c.toNat (List.mem_range.2 c.toNat_lt)
 unfold okC at h
 rw[h]at h1
 simp only[Bool.not_true,Bool.false_or,decide_eq_true_eq]at h1
 unfold Qct
 rw[show Nat.beq classTab.length 256=true by decide+kernel,cond_true,QV h1]
 rfl
def goodS(s:List UInt8):Bool:=decide (1<=s.length)&&decide (s.length<=24)&&(s.head?).any okA&&s.all okC
def isNameS(s:List UInt8):Bool:=goodS s&& !kwL.contains s
theorem QiX(s:List UInt8)(h:goodS s=true):Ev (fun n=>F_de n s) true:=by
 unfold goodS at h
 simp only[Bool.and_eq_true,decide_eq_true_eq,List.all_eq_true]at h
 obtain⟨⟨⟨h1,h2⟩,h3⟩,h4⟩:=h
 unfold F_de
 refine Ev.bind Qhs ?_
 refine QaK (v:=List.replicate 256 0) (by decide+kernel) ?_
 refine QaK (v:=classTab) (by decide+kernel) ?_
 refine Ev.bind (v:=Ctl.cont ()) (Ev.iter (fun i=>(i:Int)) s.length rfl (fun i hi=>?_) ?_) ?_
 ·have ha:=Jc (x:=s[i]) (by omega) (List.getElem?_eq_getElem hi)
  have hc:=h4 _ ha.mem
  unfold F_is
  simp only[ha.lt,cond_true,ha.ix,Option.bind_some,Qk0 hc,ha.nx]
  cases i with
  |zero=>
   have:okA s[0]=true:=by
    cases s with
    |nil=>simp at h1
    |cons c r=>simpa using h3
   simp[this]
   exact Qa _
  |succ i=>
   by_cases q:okA s[i+1]=true
   ·simp[q];exact Qa _
   ·by_cases q2:s[i+1].toNat=95
    ·simp[q,q2]
     exact Qa _
    ·simp[q,q2];exact Qa _
 ·unfold F_is
  simp only[YR,cond_false]
  exact Qa _
 ·refine Ev.const ?_
  cases s with
  |nil=>simp at h1
  |cons c r=>rfl
theorem QiT{s:List UInt8}(h:goodS s=true):∀c∈s,c≠32:=by
 unfold goodS at h
 simp only[Bool.and_eq_true,List.all_eq_true]at h
 rintro c hc rfl
 exact absurd (h.2 _ hc) (by decide)
theorem Qkw{s:List UInt8}(h:goodS s=true):s.length<=24:=by
 unfold goodS at h
 simp only[Bool.and_eq_true,decide_eq_true_eq]at h
 exact h.1.1.2
theorem Qhw(s:List UInt8)(h:goodS s=true):Ev (fun n=>F_co n s) (kwL.contains s):=by
 unfold F_co
 refine Ev.bind (v:=kwL.contains s) ?_ (Qa _)
 refine Ev.bind (QiX s h) (Qlt ?_)
 have hl:=Qkw h
 refine QaK (v:=[32]++s) (by unfold cat;rw[Nat.ble_eq_true_of_le (by simp;omega)];rfl) ?_
 refine QaK (v:=[32]++s++[32]) (by unfold cat;rw[Nat.ble_eq_true_of_le (by simp;omega)];rfl) ?_
 refine QaK (v:=kwL.contains s) ?_ (Qa _)
 show Qd7 wordsL ([32]++s++[32])=some (kwL.contains s)
 unfold Qd7
 rw[show Nat.blt wordsL.length 4294967281=true by decide+kernel,cond_true]
 rw[show[32]++s++[32]=32::(s++[32])by simp,QbG s (QiT h),Qnc]
theorem ch_lt(c:UInt8)(k:Nat):decide ((c.toNat:Int)<(k:Int))=decide (c.toNat<k):=by
 rw[Bool.eq_iff_iff];simp
theorem badC(c:UInt8):(bif decide ((c.toNat:Int)<97)then(bif decide ((c.toNat:Int)<48)then some ((c.toNat:Int) != 95)else(bif decide (57<(c.toNat:Int))then some ((c.toNat:Int) != 95)else some false))else(bif decide (122<(c.toNat:Int))then(bif decide ((c.toNat:Int)<48)then some ((c.toNat:Int) != 95)else(bif decide (57<(c.toNat:Int))then some ((c.toNat:Int) != 95)else some false))else some false))=some (!okC c):=by
 unfold okC okN
 generalize c.toNat=k
 have e:((k:Int) != 95)= !decide (k=95):=by
  by_cases h:k=95
  ·subst h;rfl
  ·rw[decide_eq_false h];simp;omega
 rw[e]
 by_cases h1:k<48
 ·rw[YC (show(k:Int)<97 by omega),YC (show(k:Int)<48 by omega)]
  have a1:¬97<=k:=by omega
  have a2:¬48<=k:=by omega
  simp[a1,a2]
 ·rw[Ys (show¬(k:Int)<48 by omega)]
  by_cases h2:k<=57
  ·rw[YC (show(k:Int)<97 by omega),Ys (show¬57<(k:Int)by omega)]
   have a1:48<=k:=by omega
   simp[a1,h2]
  ·rw[YC (show 57<(k:Int)by omega)]
   by_cases h3:k<97
   ·rw[YC (show(k:Int)<97 by omega)]
    have a1:¬97<=k:=by omega
    simp[a1,h2]
   ·rw[Ys (show¬(k:Int)<97 by omega)]
    by_cases h4:k<=122
    ·rw[Ys (show¬122<(k:Int)by omega)]
     have a1:97<=k:=by omega
     simp[a1,h4]
    ·rw[YC (show 122<(k:Int)by omega)]
     simp[h2,h4]
theorem QiO(n:Nat)(s:List UInt8):(bif decide ((s.length:Int)<1)then some true else(bif decide (24<(s.length:Int))then some true else(idx s 0).bind fun x10=>(bif decide ((x10.toNat:Int)<97)then some true else(idx s 0).bind fun x12=>some (decide (122<(x12.toNat:Int))))))=some (!(decide (1<=s.length)&&decide (s.length<=24)&&(s.head?).any okA)):=by
 cases s with
 |nil=>rfl
 |cons c r=>
  rw[Ys (show¬((c::r).length:Int)<1 by simp;omega),cond_false]
  by_cases h:(c::r).length<=24
  ·rw[Ys (show¬24<((c::r).length:Int)by omega),cond_false]
   have e0:idx (c::r) 0=some c:=rfl
   simp only[e0,Option.bind_some]
   simp only[List.length_cons]at h
   have h':r.length<=23:=by omega
   simp only[List.head?_cons,Option.any_some,okA,okAN]
   rw[show(97:Int)=((97:Nat):Int)from rfl,ch_lt]
   by_cases h1:c.toNat<97
   ·have:¬97<=c.toNat:=by omega
    simp[h1,this]
   ·have a1:97<=c.toNat:=by omega
    simp[h1,a1,h']
    by_cases q:c.toNat<=122
    ·rw[Ys (show¬122<(c.toNat:Int)by omega),YC q];rfl
    ·rw[YC (show 122<(c.toNat:Int)by omega),Ys q];rfl
  ·rw[YC (show 24<((c::r).length:Int)by omega),cond_true]
   simp only[List.length_cons]at h
   have h':¬r.length<=23:=by omega
   simp[h']
theorem Qe8(s:List UInt8)(hl:s.length<=1048576):Ev (fun n=>F_d n s) (isNameS s):=by
 unfold F_d
 refine Ev.bind (Ev.const (QiO 0 s)) ?_
 unfold isNameS
 cases hh:(decide (1<=s.length)&&decide (s.length<=24)&&(s.head?).any okA)with
 |false=>
  simp only[Bool.not_false,cond_true]
  have:goodS s=false:=by unfold goodS;rw[hh];rfl
  rw[this]
  exact Qa _
 |true=>
  simp only[Bool.not_true,cond_false]
  have hg:goodS s=s.all okC:=by unfold goodS;rw[hh];rfl
  refine Ev.bind (QaQ s (fun c=> !okC c) (fun i=>(i:Int)) (Ctl.done false) (Ctl.cont ()) (by omega) rfl (fun i x ha hq=>?_) (fun i x ha hq=>?_) ?_) ?_
  ·unfold F_hb
   simp only[ha.lt,cond_true,ha.ix,Option.bind_some,badC,hq,cond_false,ha.nx]
   exact Qa _
  ·unfold F_hb
   simp only[ha.lt,cond_true,ha.ix,Option.bind_some,badC,hq]
   exact Qa _
  ·unfold F_hb
   simp only[YR,cond_false]
   exact Qa _
  ·rw[hg]
   have e:s.any (fun c=> !okC c)= !s.all okC:=by rw[List.not_all_eq_any_not]
   rw[e]
   cases q:s.all okC with
   |true=>
    simp only[Bool.not_true,cond_false,Bool.true_and]
    exact Ev.bind (Qhw s (hg.trans q)) (Qa _)
   |false=>
    simp only[Bool.not_false,cond_true,Bool.false_and]
    exact Qa _
def diffS:List (List UInt8)->List (List UInt8)->Bool
 |_,[]=>true
 |seen,x::r=>isNameS x&& !seen.contains x&&diffS (seen++[x]) r
theorem Qhz(l:List (List UInt8))(i:Nat)(x:List UInt8)(h:At l i x):diffS (l.take i) (l.drop i)=(isNameS x&& !(l.take i).contains x&&diffS (l.take (i+1)) (l.drop (i+1))):=by
 rw[h.drop,h.take];rfl
theorem QbF{α:Type}(l:List α)(nm:α->List UInt8)(g:Nat->α->Option Unit)(hg:∀n x,g n x=some ())(hl:l.length<=1048576)(hn:∀x∈l,(nm x).length<=1048576):
  Ev (fun n=>((iter (fun s:(List (List UInt8×Bool))×Int=>bif decide (s.2<(l.length:Int))then(idx l s.2).bind fun x35=>(g n x35).bind fun r36=>((F_d n (nm x35)).bind fun r42=>(bif (!r42)then some true else(some (QG s.1 (nm x35) false)).bind fun v44=>some v44):Option Bool).bind fun b40=>(bif b40 then some (.done (.done false))else(some (QQ s.1 (nm x35) true)).bind fun m46=>some (.cont (m46,IntKind.i64.wrap (s.2+1))))else some (.done (.cont ()))) n ([],0):Option (Ctl Unit Bool)).bind fun b28=>
   match b28 with
   |.cont _=>some true
   |.done s=>some s:Option Bool)) (diffS [] (l.map nm)):=by
 have hl':l.length<=4611686018427387904:=by omega
 have hml:(l.map nm).length<=4611686018427387904:=by simpa using hl'
 have key:=Qf0 (B:=Ctl Unit Bool) l (step:=fun n s=>bif decide (s.2<(l.length:Int))then(idx l s.2).bind fun x35=>(g n x35).bind fun r36=>((F_d n (nm x35)).bind fun r42=>(bif (!r42)then some true else(some (QG s.1 (nm x35) false)).bind fun v44=>some v44):Option Bool).bind fun b40=>(bif b40 then some (.done (.done false))else(some (QQ s.1 (nm x35) true)).bind fun m46=>some (.cont (m46,IntKind.i64.wrap (s.2+1))))else some (.done (.cont ())))
  (s0:=(([]:List (List UInt8×Bool)),(0:Int))) (fun i=>(Q0 nm true (l.take i),(i:Int))) (fun i=>bif diffS ((l.map nm).take i) ((l.map nm).drop i)then .cont ()else .done false) hl' rfl (fun i x ha=>?_) ?_
 ·refine Ev.bind key ?_
  simp only[List.take_zero,List.drop_zero]
  cases diffS [] (l.map nm)<;>exact Qa _
 ·have ha2:At (l.map nm) i (nm x):=Jc hml (by rw[List.getElem?_map,ha.get];rfl)
  simp only[Qhz _ _ _ ha2]
  have hev:Ev (fun n=>((F_d n (nm x)).bind fun r42=>(bif (!r42)then some true else(some (QG (Q0 nm true (l.take i)) (nm x) false)).bind fun v44=>some v44):Option Bool)) (!(isNameS (nm x)&& !((l.map nm).take i).contains (nm x))):=by
   refine Ev.bind (Qe8 (nm x) (hn x ha.mem)) ?_
   cases isNameS (nm x)with
   |false=>exact Qa _
   |true=>
    refine YK ((Qa _).eq ?_)
    rw[QbD,List.map_take]
    by_cases h:nm x∈(l.map nm).take i
    ·rw[if_pos h];simp[h]
    ·rw[if_neg h];simp[h]
  cases hc:(isNameS (nm x)&& !((l.map nm).take i).contains (nm x))with
  |true=>
   rw[hc]at hev
   refine .inl ⟨?_,by simp⟩
   simp only[ha.lt,cond_true,ha.ix,Option.bind_some,hg]
   refine Ev.bind hev ?_
   simp only[Bool.not_true,cond_false,Option.bind_some,ha.nx]
   rw[ha.take,Qco]
   exact Qa _
  |false=>
   rw[hc]at hev
   refine .inr ?_
   simp only[ha.lt,cond_true,ha.ix,Option.bind_some,hg]
   refine Ev.bind hev ?_
   simp only[Bool.not_false,cond_true,Bool.false_and,cond_false]
   exact Qa _
 ·simp only[YR,cond_false]
  rw[show(l.map nm).drop l.length=[]by apply List.drop_eq_nil_of_le;simp]
  exact Qa _
theorem Qc3{α:Type}{l:List α}{x:α}(h:l.length<=140737488):app l [x]=some (l++[x]):=Ql8 l x (by omega)
theorem Qe9{α β:Type}(l:List α)(f:α->β)(hl:l.length<=140737488):Ev (fun n=>iter (fun s:(List β)×Int=>bif decide (s.2<(l.length:Int))then(idx l s.2).bind fun x15=>(app s.1 [f x15]).bind fun l16=>some (Ctl.cont (l16,IntKind.i64.wrap (s.2+1)))else some (Ctl.done s.1)) n (([]:List β),(0:Int))) (l.map f):=by
 have e:∀l:List α,l.foldl (fun(a:List β) x=>a++[f x]) []=l.map f:=by
  intro l
  have gen:∀(l:List α) (a:List β),l.foldl (fun(a:List β) x=>a++[f x]) a=a++l.map f:=by
   intro l
   induction l with
   |nil=>intro a;simp
   |cons x l ih=>intro a;rw[List.foldl_cons,ih];simp
  simpa using gen l []
 rw[<- e l]
 refine Qbm l (fun(a:List β) x=>a++[f x]) [] (fun a i=>(a,(i:Int))) (fun a=>a) (by omega) rfl (fun i x a ha haa=>?_) ?_
 ·rw[e]at haa
  have:a.length<=140737488:=by rw[haa];simp;omega
  simp only[ha.lt,cond_true,ha.ix,Option.bind_some,Qc3 this,ha.nx]
  exact Qa _
 ·simp only[YR,cond_false]
  exact Qa _
def namesS(c:Course):Bool:=isNameS c.Name&&(diffS [] (c.Mats.map (·.Name))&&(diffS [] (c.Distances.map (·.Name))&&(diffS [] (c.Waves.map (·.Name))&&(diffS [] (c.Offences.map (·.Name))&&diffS [] (c.Categories.map (·.Name))))))
structure CourseOk (c:Course):Prop where
 name:c.Name.length<=1048576
 mats:c.Mats.length<=1048576
 matsN:∀x∈c.Mats,x.Name.length<=1048576
 legs:c.Legs.length<=1048576
 dist:c.Distances.length<=1048576
 distN:∀x∈c.Distances,x.Name.length<=1048576
 cut:∀x∈c.Distances,x.Cutoffs.length<=1048576
 wave:c.Waves.length<=1048576
 waveN:∀x∈c.Waves,x.Name.length<=1048576
 off:c.Offences.length<=1048576
 offN:∀x∈c.Offences,x.Name.length<=1048576
 cat:c.Categories.length<=1048576
 catN:∀x∈c.Categories,x.Name.length<=1048576
 prize:c.Prizes.length<=1048576
theorem QkI(c:Course)(w:CourseOk c):Ev (fun n=>F_bt n c) (namesS c):=by
 unfold F_bt namesS
 refine Ev.bind (v:=_) ?_ (Qa _)
 refine Ev.bind (Qe8 c.Name w.name) (Ev.and fun _=>?_)
 have h1:Ev (fun n=>F_bj n c.Mats) (diffS [] (c.Mats.map (·.Name))):=by unfold F_bj;exact QbF c.Mats (·.Name) F_gf (fun _ _=>rfl) w.mats w.matsN
 have h2:Ev (fun n=>F_cg n c.Distances) (diffS [] (c.Distances.map (·.Name))):=by unfold F_cg;exact QbF c.Distances (·.Name) F_fv (fun _ _=>rfl) w.dist w.distN
 have h3:Ev (fun n=>F_bi n c.Waves) (diffS [] (c.Waves.map (·.Name))):=by unfold F_bi;exact QbF c.Waves (·.Name) F_ep (fun _ _=>rfl) w.wave w.waveN
 have h4:Ev (fun n=>F_dj n c.Offences) (diffS [] (c.Offences.map (·.Name))):=by unfold F_dj;exact QbF c.Offences (·.Name) F_er (fun _ _=>rfl) w.off w.offN
 have h5:Ev (fun n=>F_cc n c.Categories) (diffS [] (c.Categories.map (·.Name))):=by unfold F_cc;exact QbF c.Categories (·.Name) F_gb (fun _ _=>rfl) w.cat w.catN
 refine Ev.bind h1 (Ev.and fun _=>?_)
 refine Ev.bind h2 (Ev.and fun _=>?_)
 refine Ev.bind h3 (Ev.and fun _=>?_)
 refine Ev.bind h4 (Ev.and fun _=>?_)
 exact Ev.bind h5 (Qa _)
theorem Qcf{n:Nat}(h:n<=1048576):IntKind.i64.wrap ((n:Int)-1)=(n:Int)-1:=Ye (by omega) (by omega)
mutual
def szP:Part->Nat
 |⟨_,_,ps⟩=>1+szPs ps
def szPs:List Part->Nat
 |[]=>0
 |p::r=>szP p+szPs r
end
theorem Qac(p:Part):szP p=1+szPs p.Parts:=by cases p;rfl
theorem QaV{p:Part}:∀{l:List Part},p∈l->szP p<=szPs l
 |q::r,h=>by
  simp only[szPs]
  rcases List.mem_cons.1 h with rfl|h
  ·omega
  ·have:=QaV h;omega
mutual
def partS(k:Int):Part->Bool
 |⟨m,laps,ps⟩=>bif laps==0 then inR 0 k m&&((ps.length:Int)==0)else inR 1 64 laps&&((m==0)&&(decide (0<(ps.length:Int))&&partsS k ps))
def partsS(k:Int):List Part->Bool
 |[]=>true
 |p::r=>partS k p&&partsS k r
end
theorem QdV(k:Int)(p:Part):partS k p=bif p.Laps==0 then inR 0 k p.Mat&&((p.Parts.length:Int)==0)else inR 1 64 p.Laps&&((p.Mat==0)&&(decide (0<(p.Parts.length:Int))&&partsS k p.Parts)):=by cases p;rfl
theorem QcV(k:Int):∀l:List Part,partsS k l=l.all (partS k)
 |[]=>rfl
 |p::r=>by simp only[partsS,List.all_cons,QcV k r]
theorem YS{p:Part}(h:Part.wf p):p.Parts.length<=1048576/\ ∀x∈p.Parts,Part.wf x:=by
 cases p
 simp only[Part.wf,QcH]at h
 exact h.2.2.1
theorem Qy(lo hi x:Int):Ev (fun n=>F_a n lo hi [x]) (inR lo hi x):=(Qe3 lo hi [x] (by simp)).eq (by simp)
theorem QaF(lo hi x y:Int):Ev (fun n=>F_a n lo hi [x,y]) (inR lo hi x&&inR lo hi y):=(Qe3 lo hi [x,y] (by simp)).eq (by simp)
theorem QkG(k:Int):∀(m:Nat) (l:List Part),szPs l<=m->l.length<=1048576->(∀x∈l,Part.wf x)->Ev (fun n=>F_f n l k) (partsS k l):=by
 intro m
 induction m with
 |zero=>
  intro l hm hl hw
  cases l with
  |nil=>
   refine YP ?_
   show Ev (fun n=>B_f (F_f n) n [] k) _
   unfold B_f F_bl F_dd
   exact YW [] (partS k) (fun n x=>F_au (F_f n) n x k) (by simp) (by simp)
  |cons p r=>
   exfalso
   simp only[szPs,Qac]at hm
   omega
 |succ m ih=>
  intro l hm hl hw
  refine YP ?_
  show Ev (fun n=>B_f (F_f n) n l k) _
  unfold B_f F_bl F_dd
  rw[QcV]
  refine YW l (partS k) (fun n x=>F_au (F_f n) n x k) (by omega) fun p hp=>?_
  unfold F_au
  rw[QdV]
  have h1:=QaV hp
  rw[Qac]at h1
  obtain⟨w1,w2⟩:=YS (hw p hp)
  refine YL (fun _=>?_) (fun _=>?_)
  ·exact Ev.bind (Ev.bind (Qy _ _ _) (Ev.and fun _=>Qa _)) (Qa _)
  ·exact Ev.bind (Ev.bind (Qy _ _ _) (Ev.and fun _=>Ev.and fun _=>Ev.and fun _=>Ev.bind (ih p.Parts (by omega) w1 w2) (Qa _))) (Qa _)
def legS(k:Int)(l:Leg):Bool:=(inR 0 k l.From&&inR 0 k l.To)&&((inR 0 68719476736 l.Min&&inR 0 68719476736 l.Max)&&decide (l.Min<=l.Max))
def cutS(k:Int)(x:Cutoff):Bool:=inR 0 k x.Mat&&(decide (1<=x.Lap)&&inR 0 1099511627776 x.Limit)
def distS(k:Int)(d:Distance):Bool:=inR 1 3 d.Timing&&(inR (-1) k d.Extra&&(partsS k d.Route&&d.Cutoffs.all (cutS k)))
def offS(o:Offence):Bool:=bif o.Out then(o.Time==0)&&(o.Laps==0)else bif o.Laps != 0 then(o.Time==0)&&inR 1 64 o.Laps else inR 0 68719476736 o.Time
def catS(x:Category):Bool:=(inR 0 120 x.From&&inR 0 120 x.To)&&decide (x.From<=x.To)
def prizeS(c:Course)(p:Prize):Bool:=inR 0 ((c.Distances.length:Int)-1) p.Distance&&(inR (-1) ((c.Categories.length:Int)-1) p.Category&&(inR 1 4000 p.Rank&&inR 1 1125899906842624 p.Amount))
def lastS(c:Course):Bool:=(inR 0 16 c.Faults.Misses&&inR 0 16 c.Faults.Strays)&&((inR 0 4294967296 c.Faults.Window&&inR 0 4294967296 c.Faults.Residual)&&(inR 0 100000 c.Faults.Drift&&(inR 0 1125899906842624 c.Fee&&inR 0 1099511627776 c.Deadline)))
def legKey(l:Leg):typing_ends:={from_:=l.From,to_:=l.To}
def prizeKey(p:Prize):typing_place:={distance:=p.Distance,category:=p.Category,rank:=p.Rank}
def numbersS(c:Course):Bool:=
 let k:=(c.Mats.length:Int)-1
 c.Mats.all (fun m=>inR 1 3 m.Kind)&&(c.Legs.all (legS k)&&(decide ((c.Legs.map legKey).Nodup)&&(c.Distances.all (distS k)&&(c.Waves.all (fun w=>inR 0 1099511627776 w.Gun)&&(c.Offences.all offS&&(c.Categories.all catS&&(c.Prizes.all (prizeS c)&&(decide ((c.Prizes.map prizeKey).Nodup)&&lastS c))))))))
structure PartsOk (c:Course):Prop where
 len:∀d∈c.Distances,d.Route.length<=1048576
 wf:∀d∈c.Distances,∀x∈d.Route,Part.wf x
theorem QfM(l:List Leg)(hl:l.length<=1048576):Ev (fun n=>F_cz n l) (decide ((l.map legKey).Nodup)):=by
 unfold F_cz
 refine Ev.bind (Qbn l legKey true (by omega) (fun i x m ha=>?_) (fun m=>?_)) ((Qa _).eq ?_)
 ·unfold F_ir F_eb
  simp only[ha.lt,cond_true,ha.ix,Option.bind_some,ha.nx]
  exact Qa _
 ·unfold F_ir
  simp only[YR,cond_false]
  exact Qa _
 ·rw[Bool.eq_iff_iff]
  simp only[beq_iff_eq,decide_eq_true_eq]
  have:=QbV legKey true l
  rw[<- this.2]
  omega
theorem Qej(l:List Prize)(hl:l.length<=1048576):Ev (fun n=>F_da n l) (decide ((l.map prizeKey).Nodup)):=by
 unfold F_da
 refine Ev.bind (Qbn l prizeKey true (by omega) (fun i x m ha=>?_) (fun m=>?_)) ((Qa _).eq ?_)
 ·unfold F_iv F_eo
  simp only[ha.lt,cond_true,ha.ix,Option.bind_some,ha.nx]
  exact Qa _
 ·unfold F_iv
  simp only[YR,cond_false]
  exact Qa _
 ·rw[Bool.eq_iff_iff]
  simp only[beq_iff_eq,decide_eq_true_eq]
  have:=QbV prizeKey true l
  rw[<- this.2]
  omega
theorem Qho(c:Course)(w:CourseOk c)(q:PartsOk c):Ev (fun n=>F_dm n c) (numbersS c):=by
 unfold F_dm numbersS
 rw[Qcf w.mats]
 refine Ev.bind (v:=_) ?_ (Qa _)
 have h1:Ev (fun n=>F_bk n c.Mats) (c.Mats.all fun m=>inR 1 3 m.Kind):=by
  unfold F_bk F_dz F_fq
  refine YW c.Mats _ (fun n x=>F_dk n x) (by have:=w.mats;omega) fun x hx=>?_
  unfold F_dk
  exact Ev.bind (Qy _ _ _) (Qa _)
 have h2:Ev (fun n=>F_dn n c.Legs ((c.Mats.length:Int)-1)) (c.Legs.all (legS ((c.Mats.length:Int)-1))):=by
  unfold F_dn F_fr F_et
  refine YW c.Legs _ (fun n x=>F_ck n x _) (by have:=w.legs;omega) fun x hx=>?_
  unfold F_ck
  exact Ev.bind (Ev.bind (QaF _ _ _ _) (Ev.and fun _=>Ev.bind (QaF _ _ _ _) (Ev.and fun _=>Qa _))) (Qa _)
 have h4:Ev (fun n=>F_cn n c.Distances ((c.Mats.length:Int)-1)) (c.Distances.all (distS ((c.Mats.length:Int)-1))):=by
  unfold F_cn F_gd F_ed
  refine YW c.Distances _ (fun n x=>F_ds n x _) (by have:=w.dist;omega) fun x hx=>?_
  unfold F_ds
  have hc:Ev (fun n=>F_dl n x.Cutoffs ((c.Mats.length:Int)-1)) (x.Cutoffs.all (cutS ((c.Mats.length:Int)-1))):=by
   unfold F_dl F_ex F_ea
   refine YW x.Cutoffs _ (fun n x=>F_br n x _) (by have:=w.cut x hx;omega) fun y hy=>?_
   unfold F_br
   exact Ev.bind (Ev.bind (Qy _ _ _) (Ev.and fun _=>Ev.and fun _=>Ev.bind (Qy _ _ _) (Qa _))) (Qa _)
  exact Ev.bind (Ev.bind (Qy _ _ _) (Ev.and fun _=>Ev.bind (Qy _ _ _) (Ev.and fun _=>Ev.bind (QkG _ _ x.Route (Nat.le_refl _) (q.len x hx) (q.wf x hx)) (Ev.and fun _=>Ev.bind hc (Qa _))))) (Qa _)
 have h5:Ev (fun n=>F_bo n c.Waves) (c.Waves.all fun w=>inR 0 1099511627776 w.Gun):=by
  unfold F_bo F_fk F_fb
  refine YW c.Waves _ (fun n x=>F_cq n x) (by have:=w.wave;omega) fun x hx=>?_
  unfold F_cq
  exact Ev.bind (Qy _ _ _) (Qa _)
 have h6:Ev (fun n=>F_df n c.Offences) (c.Offences.all offS):=by
  unfold F_df F_fd F_eg
  refine YW c.Offences _ (fun n x=>F_ci n x) (by have:=w.off;omega) fun x hx=>?_
  unfold F_ci offS
  refine YL (fun _=>Ev.bind (Ev.and fun _=>Qa _) (Qa _)) fun _=>YL (fun _=>Ev.bind (Ev.and fun _=>Ev.bind (Qy _ _ _) (Qa _)) (Qa _)) fun _=>Ev.bind (Qy _ _ _) (Qa _)
 have h7:Ev (fun n=>F_cl n c.Categories) (c.Categories.all catS):=by
  unfold F_cl F_eh F_en
  refine YW c.Categories _ (fun n x=>F_cx n x) (by have:=w.cat;omega) fun x hx=>?_
  unfold F_cx
  exact Ev.bind (Ev.bind (QaF _ _ _ _) (Ev.and fun _=>Qa _)) (Qa _)
 have h8:Ev (fun n=>F_bh n c.Prizes c) (c.Prizes.all (prizeS c)):=by
  unfold F_bh F_fm F_gk
  refine YW c.Prizes _ (fun n x=>F_ct n x c) (by have:=w.prize;omega) fun x hx=>?_
  unfold F_ct
  rw[Qcf w.dist,Qcf w.cat]
  exact Ev.bind (Ev.bind (Qy _ _ _) (Ev.and fun _=>Ev.bind (Qy _ _ _) (Ev.and fun _=>Ev.bind (Qy _ _ _) (Ev.and fun _=>Ev.bind (Qy _ _ _) (Qa _))))) (Qa _)
 refine Ev.bind h1 (Ev.and fun _=>Ev.bind h2 (Ev.and fun _=>Ev.bind (QfM _ w.legs) (Ev.and fun _=>Ev.bind h4 (Ev.and fun _=>Ev.bind h5 (Ev.and fun _=>Ev.bind h6 (Ev.and fun _=>Ev.bind h7 (Ev.and fun _=>Ev.bind h8 (Ev.and fun _=>Ev.bind (Qej _ w.prize) (Ev.and fun _=>?_)))))))))
 exact Ev.bind (QaF _ _ _ _) (Ev.and fun _=>Ev.bind (QaF _ _ _ _) (Ev.and fun _=>Ev.bind (Qy _ _ _) (Ev.and fun _=>Ev.bind (Qy _ _ _) (Ev.and fun _=>Ev.bind (Qy _ _ _) (Qa _)))))
theorem ends_eq{a b a' b':Int}:(({from_:=a,to_:=b}:typing_ends)={from_:=a',to_:=b'})↔a=a'/\b=b':=by simp
theorem Qah{α B:Type}{step:Nat->Int->Option (Ctl Int B)}(l:List α)(ok:α->Bool)(bx b:B)(hl:l.length<=4611686018427387904)
  (hs:∀i x,At l i x->Ev (fun n=>step n (i:Int)) (bif ok x then .cont ((i+1:Nat):Int)else .done bx))(hd:Ev (fun n=>step n (l.length:Int)) (.done b)):
  Ev (fun n=>Go.Sw.iter (step n) n 0) (bif l.all ok then b else bx):=by
 have e:(bif l.all ok then b else bx)=bif l.any (fun x=> !ok x)then bx else b:=by
  rw[<- List.not_all_eq_any_not]
  cases l.all ok<;>rfl
 rw[e]
 refine QaQ l (fun x=> !ok x) (fun i=>(i:Int)) bx b hl rfl (fun i x ha hq=>?_) (fun i x ha hq=>?_) hd
 ·have h:ok x=true:=by simpa using hq
  have:=hs i x ha
  rwa [h]at this
 ·have h:ok x=false:=by simpa using hq
  have:=hs i x ha
  rwa [h]at this
mutual
def cN:Cond->Nat
 |⟨_,_,_,ps⟩=>1+cNs ps
def cNs:List Cond->Nat
 |[]=>0
 |c::r=>cN c+cNs r
end
theorem Qfi(c:Cond):cN c=1+cNs c.Parts:=by cases c;rfl
mutual
def cD:Nat->Cond->Bool
 |d,⟨_,_,_,ps⟩=>cDs d ps
def cDs:Nat->List Cond->Bool
 |_,[]=>true
 |d,c::r=>decide (d<=16)&&(cD (d+1) c&&cDs d r)
end
theorem cD_eq(d:Nat)(c:Cond):cD d c=cDs d c.Parts:=by cases c;rfl
def zeroC(c:Cond):Bool:=(c.Kind==0)&&((c.Var==0)&&((c.N==0)&&((c.Parts.length:Int)==0)))
mutual
def sNp:Step->Nat
 |⟨_,_,_,t,e⟩=>1+sNs t+sNs e
def sNs:List Step->Nat
 |[]=>0
 |s::r=>sNp s+sNs r
end
theorem Qh2(s:Step):sNp s=1+sNs s.Then+sNs s.Else:=by cases s;rfl
mutual
def sC:Step->Nat
 |⟨_,_,c,t,e⟩=>(bif zeroC c then 0 else cN c)+sCs t+sCs e
def sCs:List Step->Nat
 |[]=>0
 |s::r=>sC s+sCs r
end
theorem Qh3(s:Step):sC s=(bif zeroC s.Cond then 0 else cN s.Cond)+sCs s.Then+sCs s.Else:=by cases s;rfl
mutual
def sDp:Nat->Step->Bool
 |d,⟨_,_,c,t,e⟩=>(zeroC c||cD 1 c)&&(sDs d t&&sDs d e)
def sDs:Nat->List Step->Bool
 |_,[]=>true
 |d,s::r=>decide (d<=16)&&(sDp (d+1) s&&sDs d r)
end
theorem Qmp(d:Nat)(s:Step):sDp d s=((zeroC s.Cond||cD 1 s.Cond)&&(sDs d s.Then&&sDs d s.Else)):=by cases s;rfl
mutual
def sZ:Step->Nat
 |⟨_,_,c,t,e⟩=>2+cN c+sZs t+sZs e
def sZs:List Step->Nat
 |[]=>0
 |s::r=>sZ s+sZs r
end
theorem Qh1(s:Step):sZ s=2+cN s.Cond+sZs s.Then+sZs s.Else:=by cases s;rfl
def fS:typing_form->Nat
 |.ctyping_step x=>sNp x.Step
 |.ctyping_cond _=>0
def fC:typing_form->Nat
 |.ctyping_step x=>sC x.Step
 |.ctyping_cond x=>cN x.Cond
def fD(d:Nat):typing_form->Bool
 |.ctyping_step x=>sDp d x.Step
 |.ctyping_cond x=>cD d x.Cond
def fZ:typing_form->Nat
 |.ctyping_step x=>sZ x.Step
 |.ctyping_cond x=>cN x.Cond
def fSs(l:List typing_form):Nat:=(l.map fS).sum
def fCs(l:List typing_form):Nat:=(l.map fC).sum
def fZs(l:List typing_form):Nat:=(l.map fZ).sum
def fwf:typing_form->Prop
 |.ctyping_step x=>Step.wf x.Step
 |.ctyping_cond x=>Cond.wf x.Cond
def ofStep(s:Step):typing_form:=.ctyping_step {Step:=s}
def ofCond(c:Cond):typing_form:=.ctyping_cond {Cond:=c}
theorem Qa2:∀l:List Step,fSs (l.map ofStep)=sNs l
 |[]=>rfl
 |s::r=>by
  have:=Qa2 r
  simp only[fSs,List.map_cons,List.sum_cons]at this⊢
  rw[this];rfl
theorem Qa3:∀l:List Step,fCs (l.map ofStep)=sCs l
 |[]=>rfl
 |s::r=>by
  have:=Qa3 r
  simp only[fCs,List.map_cons,List.sum_cons]at this⊢
  rw[this];rfl
theorem QbE:∀l:List Step,fZs (l.map ofStep)=sZs l
 |[]=>rfl
 |s::r=>by
  have:=QbE r
  simp only[fZs,List.map_cons,List.sum_cons]at this⊢
  rw[this];rfl
theorem Qee:∀l:List Cond,fSs (l.map ofCond)=0
 |[]=>rfl
 |s::r=>by
  have:=Qee r
  simp only[fSs,List.map_cons,List.sum_cons]at this⊢
  rw[this];rfl
theorem Qeg:∀l:List Cond,fCs (l.map ofCond)=cNs l
 |[]=>rfl
 |s::r=>by
  have:=Qeg r
  simp only[fCs,List.map_cons,List.sum_cons]at this⊢
  rw[this];rfl
theorem Qec:∀l:List Cond,fZs (l.map ofCond)=cNs l
 |[]=>rfl
 |s::r=>by
  have:=Qec r
  simp only[fZs,List.map_cons,List.sum_cons]at this⊢
  rw[this];rfl
theorem Qcu(d:Nat):∀l:List Step,sDs d l=((l.map ofStep).isEmpty||(decide (d<=16)&&(l.map ofStep).all (fD (d+1))))
 |[]=>rfl
 |s::r=>by
  rw[sDs,Qcu d r]
  simp only[List.map_cons,List.isEmpty_cons,Bool.false_or,List.all_cons]
  rw[show fD (d+1) (ofStep s)=sDp (d+1) s from rfl]
  cases r with
  |nil=>simp
  |cons x r=>
   simp only[List.map_cons,List.isEmpty_cons,Bool.false_or,List.all_cons]
   cases decide (d<=16)<;>simp
theorem Qgz(d:Nat):∀l:List Cond,cDs d l=((l.map ofCond).isEmpty||(decide (d<=16)&&(l.map ofCond).all (fD (d+1))))
 |[]=>rfl
 |s::r=>by
  rw[cDs,Qgz d r]
  simp only[List.map_cons,List.isEmpty_cons,Bool.false_or,List.all_cons]
  rw[show fD (d+1) (ofCond s)=cD (d+1) s from rfl]
  cases r with
  |nil=>simp
  |cons x r=>
   simp only[List.map_cons,List.isEmpty_cons,Bool.false_or,List.all_cons]
   cases decide (d<=16)<;>simp
theorem Qak{c:Cond}(h:Cond.wf c):c.Parts.length<=1048576/\ ∀x∈c.Parts,Cond.wf x:=by
 cases c
 simp only[Cond.wf,QcN]at h
 exact h.2.2.2.1
theorem Qaj{s:Step}(h:Step.wf s):Cond.wf s.Cond/\(s.Then.length<=1048576/\ ∀x∈s.Then,Step.wf x)/\(s.Else.length<=1048576/\ ∀x∈s.Else,Step.wf x):=by
 cases s
 simp only[Step.wf,QcA]at h
 exact⟨h.2.2.1,h.2.2.2.1,h.2.2.2.2.1⟩
theorem Qe7(n:Nat)(c:Cond):F_q n {Cond:=c}=some (zeroC c):=by
 unfold F_q zeroC
 cases(c.Kind==0)<;>cases(c.Var==0)<;>cases(c.N==0)<;>rfl
theorem Qeh(l:List Step)(hl:l.length<=140737488):Ev (fun n=>F_x n l) (l.map ofStep):=by
 unfold F_x
 exact Ev.bind (Qe9 l ofStep hl) (Qa _)
theorem QkN(l:List Cond)(hl:l.length<=140737488):Ev (fun n=>F_bp n l) (l.map ofCond):=by
 unfold F_bp
 exact Ev.bind (Qe9 l ofCond hl) (Qa _)
def stepParts(s:Step):List typing_form:=s.Then.map ofStep++s.Else.map ofStep
theorem Qbh(s:Step)(h:Step.wf s):Ev (fun n=>F_n n {Step:=s}) (stepParts s):=by
 obtain⟨_,⟨h1,_⟩,⟨h2,_⟩⟩:=Qaj h
 unfold F_n stepParts
 refine Ev.bind (Qeh s.Then (by omega)) (Ev.bind (Qeh s.Else (by omega)) (QaK (QgV _ _ (by simp;omega)) (Qa _)))
theorem Qcw(c:Cond)(h:Cond.wf c):Ev (fun n=>F_m n {Cond:=c}) (c.Parts.map ofCond):=by
 obtain⟨h1,_⟩:=Qak h
 unfold F_m
 exact Ev.bind (QkN c.Parts (by omega)) (Qa _)
def okL(l:List typing_form)(d:Nat)(st co:Int):Bool:=l.isEmpty||(decide (d<=16)&&(l.all (fD (d+1))&&(decide (st+fSs l<=64)&&decide (co+fCs l<=256))))
def okR(l:List typing_form)(d:Nat)(st co:Int):Bool:=l.isEmpty||(l.all (fD (d+1))&&(decide (st+fSs l<=64)&&decide (co+fCs l<=256)))
def okF(f:typing_form)(d:Nat)(st co:Int):Bool:=fD (d+1) f&&(decide (st+fS f<=64)&&decide (co+fC f<=256))
theorem Qgy(f:typing_form)(l:List typing_form):fSs (f::l)=fS f+fSs l:=rfl
theorem QgA(f:typing_form)(l:List typing_form):fCs (f::l)=fC f+fCs l:=rfl
theorem Qgx(f:typing_form)(l:List typing_form):fZs (f::l)=fZ f+fZs l:=rfl
theorem Qed(l m:List typing_form):fSs (l++m)=fSs l+fSs m:=by simp[fSs]
theorem Qef(l m:List typing_form):fCs (l++m)=fCs l+fCs m:=by simp[fCs]
theorem Qeb(l m:List typing_form):fZs (l++m)=fZs l+fZs m:=by simp[fZs]
theorem Qki(f:typing_form)(r:List typing_form)(d:Nat)(st co:Int):okR (f::r) d st co=(okF f d st co&&okR r d (st+fS f) (co+fC f)):=by
 unfold okR okF
 rw[Qgy,QgA]
 cases r with
 |nil=>simp[fSs,fCs]
 |cons g r=>
  rw[Bool.eq_iff_iff]
  simp only[List.isEmpty_cons,Bool.false_or,List.all_cons,Bool.and_eq_true,decide_eq_true_eq]
  rw[show((fS f+fSs (g::r):Nat):Int)=(fS f:Int)+(fSs (g::r):Int)by omega,show((fC f+fCs (g::r):Nat):Int)=(fC f:Int)+(fCs (g::r):Int)by omega]
  constructor
  ·rintro⟨⟨h1,h2⟩,h3,h4⟩
   exact⟨⟨h1,by omega,by omega⟩,h2,by omega,by omega⟩
  ·rintro⟨⟨h1,_,_⟩,h2,h3,h4⟩
   exact⟨⟨h1,h2⟩,by omega,by omega⟩
theorem QfB(l:List typing_form)(d:Nat)(st co:Int)(h1:st<=64)(h2:co<=256):okL l d st co=true↔(l.isEmpty||(decide (d<=16)&&l.all (fD (d+1))))=true/\st+fSs l<=64/\co+fCs l<=256:=by
 unfold okL
 cases l with
 |nil=>simp[fSs,fCs,h1,h2]
 |cons f r=>
  simp only[List.isEmpty_cons,Bool.false_or,Bool.and_eq_true,decide_eq_true_eq]
  constructor
  ·rintro⟨a,b,c,e⟩;exact⟨⟨a,b⟩,c,e⟩
  ·rintro⟨⟨a,b⟩,c,e⟩;exact⟨a,b,c,e⟩
theorem QdG(s:Step)(d:Nat):((stepParts s).isEmpty||(decide (d<=16)&&(stepParts s).all (fD (d+1))))=(sDs d s.Then&&sDs d s.Else):=by
 rw[Qcu,Qcu]
 unfold stepParts
 rw[List.all_append]
 cases h1:s.Then<;>cases h2:s.Else<;>simp<;>(cases decide (d<=16)<;>simp)
def Cnt(R:Nat->List typing_form->Int->typing_count->Option (typing_count×Bool))(l:List typing_form)(d:Nat)(st co:Int):Prop:=
 ∃c':typing_count,Ev (fun n=>R n l (d:Int) {steps:=st,conds:=co}) (c',okL l d st co)/\(okL l d st co=true->c'={steps:=st+fSs l,conds:=co+fCs l})
theorem QhA{R:Nat->List typing_form->Int->typing_count->Option (typing_count×Bool)}{l:List typing_form}{d:Nat}(hd:d<=16){i:Nat}{f:typing_form}(ha:At l i f)(hw:fwf f)
  (ih:∀l' d' st co,fZs l'<fZ f->l'.length<=2097152->(∀f∈l',fwf f)->d'<=17->0<=st->st<=66->(st<=65\/ ∀f∈l',∃c,f=ofCond c)->0<=co->co<=256->Cnt R l' d' st co){st co:Int}(h0:0<=st)(h1':st<=66)(h1'':st<=65\/ ∃c,f=ofCond c)(h2:0<=co)(h3:co<=256):
  ∃c':typing_count,Ev (fun n=>F_fo n l (d:Int) (R n) ({steps:=st,conds:=co},(i:Int))) (bif okF f d st co then .cont (c',((i+1:Nat):Int))else .done (.done (c',false)))/\(okF f d st co=true->c'={steps:=st+fS f,conds:=co+fC f}):=by
 unfold F_fo
 simp only[ha.lt,cond_true,ha.ix,Option.bind_some,ha.nx]
 have ed:IntKind.i64.wrap ((d:Int)+1)=((d+1:Nat):Int):=QaB (by omega)
 cases f with
 |ctyping_step x=>
  obtain⟨s⟩:=x
  have h1:st<=65:=by
   rcases h1'' with h|⟨c,h⟩
   ·exact h
   ·cases h
  have hw':Step.wf s:=hw
  obtain⟨wc,⟨wt1,wt2⟩,⟨we1,we2⟩⟩:=Qaj hw'
  have e1:IntKind.i64.wrap (st+1)=st+1:=Ye (by omega) (by omega)
  simp only[typing_form.elim,Qe7,Option.bind_some,e1]
  have hc:∃c2:typing_count,Ev (fun n=>((bif (!zeroC s.Cond)then(R n [typing_form.ctyping_cond {Cond:=s.Cond}] 0 {steps:=st+1,conds:=co}).bind fun r100=>some (r100.1,(!r100.2))else some ({steps:=st+1,conds:=co},false)):Option (typing_count×Bool))) (c2, !(zeroC s.Cond||(cD 1 s.Cond&&(decide (st+1<=64)&&decide (co+cN s.Cond<=256)))))/\
    ((zeroC s.Cond||(cD 1 s.Cond&&(decide (st+1<=64)&&decide (co+cN s.Cond<=256))))=true->c2={steps:=st+1,conds:=co+((bif zeroC s.Cond then 0 else cN s.Cond:Nat):Int)}):=by
   cases hz:zeroC s.Cond with
   |true=>
    refine⟨{steps:=st+1,conds:=co},?_,fun _=>?_⟩
    ·exact Qa _
    ·simp
   |false=>
    obtain⟨c2,q1,q2⟩:=ih [ofCond s.Cond] 0 (st+1) co (by simp only[fZs,List.map_cons,List.map_nil,List.sum_cons,List.sum_nil];show cN s.Cond+0<sZ s;rw[Qh1];omega) (by simp) (by intro g hg;simp only[List.mem_singleton]at hg;subst hg;exact wc) (by omega) (by omega) (by omega) (.inr (by intro g hg;simp only[List.mem_singleton]at hg;exact⟨_,hg⟩)) h2 h3
    have ek:okL [ofCond s.Cond] 0 (st+1) co=(cD 1 s.Cond&&(decide (st+1<=64)&&decide (co+cN s.Cond<=256))):=by
     unfold okL
     simp only[List.isEmpty_cons,Bool.false_or,List.all_cons,List.all_nil,Bool.and_true,fSs,fCs,List.map_cons,List.map_nil,List.sum_cons,List.sum_nil]
     rw[show fD (0+1) (ofCond s.Cond)=cD 1 s.Cond from rfl,show fS (ofCond s.Cond)=0 from rfl,show fC (ofCond s.Cond)=cN s.Cond from rfl]
     simp
    rw[ek]at q1 q2
    refine⟨c2,Ev.bind q1 (Qa _),fun h=>?_⟩
    rw[q2 h]
    simp[fSs,fCs,show fS (ofCond s.Cond)=0 from rfl,show fC (ofCond s.Cond)=cN s.Cond from rfl]
  obtain⟨c2,q1,q2⟩:=hc
  generalize hb:(zeroC s.Cond||(cD 1 s.Cond&&(decide (st+1<=64)&&decide (co+cN s.Cond<=256))))=b at q1 q2
  have hF:okF (typing_form.ctyping_step {Step:=s}) d st co=(sDp (d+1) s&&(decide (st+sNp s<=64)&&decide (co+sC s<=256))):=rfl
  rw[hF]
  cases b with
  |false=>
   have:(sDp (d+1) s&&(decide (st+sNp s<=64)&&decide (co+sC s<=256)))=false:=by
    rw[Bool.eq_false_iff]
    intro hh
    simp only[Bool.and_eq_true,decide_eq_true_eq,Qmp,Qh2,Qh3]at hh
    obtain⟨⟨z1,_⟩,z2,z3⟩:=hh
    cases hz:zeroC s.Cond with
    |true=>rw[hz]at hb;cases hb
    |false=>
     rw[hz]at hb z1 z3
     simp only[Bool.false_or]at hb z1
     rw[z1]at hb
     simp only[cond_false]at z3
     rw[YC (show st+1<=64 by omega),YC (show co+(cN s.Cond:Int)<=256 by omega)]at hb
     cases hb
   rw[this]
   exact⟨c2,Ev.bind q1 (Qa _),fun h=>by cases h⟩
  |true=>
   obtain rfl:=q2 rfl
   by_cases g1:64<st+1
   ·have:(sDp (d+1) s&&(decide (st+sNp s<=64)&&decide (co+sC s<=256)))=false:=by
     rw[Ys (show¬st+(sNp s:Int)<=64 by rw[Qh2];omega)]
     simp
    rw[this]
    refine⟨{steps:=st+1,conds:=co+((bif zeroC s.Cond then 0 else cN s.Cond:Nat):Int)},Ev.bind q1 ?_,fun h=>by cases h⟩
    simp only[Bool.not_true,cond_false]
    refine Ev.bind (v:=(_,true)) ?_ (Qa _)
    rw[YC g1]
    exact Qa _
   by_cases g2:256<co+((bif zeroC s.Cond then 0 else cN s.Cond:Nat):Int)
   ·have:(sDp (d+1) s&&(decide (st+sNp s<=64)&&decide (co+sC s<=256)))=false:=by
     rw[Ys (show¬co+(sC s:Int)<=256 by rw[Qh3];omega)]
     simp
    rw[this]
    refine⟨{steps:=st+1,conds:=co+((bif zeroC s.Cond then 0 else cN s.Cond:Nat):Int)},Ev.bind q1 ?_,fun h=>by cases h⟩
    simp only[Bool.not_true,cond_false]
    refine Ev.bind (v:=(_,true)) ?_ (Qa _)
    rw[Ys g1,YC g2]
    exact Qa _
   obtain⟨c3,p1,p2⟩:=ih (stepParts s) (d+1) (st+1) (co+((bif zeroC s.Cond then 0 else cN s.Cond:Nat):Int)) (by
     unfold stepParts
     rw[Qeb,QbE,QbE]
     show _<sZ s
     rw[Qh1];omega) (by unfold stepParts;simp;omega) (by
     intro g hg
     unfold stepParts at hg
     rcases List.mem_append.1 hg with hg|hg
     ·obtain⟨y,hy,rfl⟩:=List.mem_map.1 hg;exact wt2 y hy
     ·obtain⟨y,hy,rfl⟩:=List.mem_map.1 hg;exact we2 y hy) (by omega) (by omega) (by omega) (.inl (by omega)) (by omega) (by omega)
   have eL:okL (stepParts s) (d+1) (st+1) (co+((bif zeroC s.Cond then 0 else cN s.Cond:Nat):Int))=(sDp (d+1) s&&(decide (st+sNp s<=64)&&decide (co+sC s<=256))):=by
    rw[Bool.eq_iff_iff,QfB _ _ _ _ (by omega) (by omega),QdG]
    simp only[Bool.and_eq_true,decide_eq_true_eq,Qmp,Qh2,Qh3]
    have e2:fSs (stepParts s)=sNs s.Then+sNs s.Else:=by unfold stepParts;rw[Qed,Qa2,Qa2]
    have e3:fCs (stepParts s)=sCs s.Then+sCs s.Else:=by unfold stepParts;rw[Qef,Qa3,Qa3]
    rw[e2,e3]
    have hz1:(zeroC s.Cond||cD 1 s.Cond)=true:=by
     cases hz:zeroC s.Cond with
     |true=>rfl
     |false=>
      rw[hz]at hb
      simp only[Bool.false_or,Bool.and_eq_true]at hb
      rw[hb.1];rfl
    constructor
    ·rintro⟨h4,h5,h6⟩;exact⟨⟨hz1,h4⟩,by omega,by omega⟩
    ·rintro⟨⟨_,h4⟩,h5,h6⟩;exact⟨h4,by omega,by omega⟩
   rw[eL]at p1 p2
   refine⟨c3,Ev.bind q1 ?_,fun h=>?_⟩
   ·simp only[Bool.not_true,cond_false]
    refine Ev.bind (v:=(c3, !(sDp (d+1) s&&(decide (st+sNp s<=64)&&decide (co+sC s<=256))))) ?_ ?_
    ·rw[Ys g1,Ys g2,ed]
     exact Ev.bind (Qbh s hw') (Ev.bind p1 (Qa _))
    ·cases(sDp (d+1) s&&(decide (st+sNp s<=64)&&decide (co+sC s<=256)))<;>exact Qa _
   ·rw[p2 h]
    have e2:fSs (stepParts s)=sNs s.Then+sNs s.Else:=by unfold stepParts;rw[Qed,Qa2,Qa2]
    have e3:fCs (stepParts s)=sCs s.Then+sCs s.Else:=by unfold stepParts;rw[Qef,Qa3,Qa3]
    rw[e2,e3,show fS (typing_form.ctyping_step {Step:=s})=sNp s from rfl,show fC (typing_form.ctyping_step {Step:=s})=sC s from rfl,Qh2,Qh3]
    congr 1<;>omega
 |ctyping_cond x=>
  obtain⟨c⟩:=x
  have hw':Cond.wf c:=hw
  obtain⟨wp1,wp2⟩:=Qak hw'
  have e1:IntKind.i64.wrap (co+1)=co+1:=Ye (by omega) (by omega)
  simp only[typing_form.elim,e1]
  have hF:okF (typing_form.ctyping_cond {Cond:=c}) d st co=(cD (d+1) c&&(decide (st<=64)&&decide (co+cN c<=256))):=by
   show(cD (d+1) c&&(decide (st+((0:Nat):Int)<=64)&&decide (co+cN c<=256)))=_
   rw[show st+((0:Nat):Int)=st by omega]
  rw[hF]
  by_cases g1:64<st
  ·have:(cD (d+1) c&&(decide (st<=64)&&decide (co+cN c<=256)))=false:=by
    rw[Ys (show¬st<=64 by omega)];simp
   rw[this]
   refine⟨{steps:=st,conds:=co+1},?_,fun h=>by cases h⟩
   refine Ev.bind (v:=(_,true)) ?_ (Qa _)
   rw[YC g1]
   exact Qa _
  by_cases g2:256<co+1
  ·have:(cD (d+1) c&&(decide (st<=64)&&decide (co+cN c<=256)))=false:=by
    rw[Ys (show¬co+(cN c:Int)<=256 by rw[Qfi];omega)];simp
   rw[this]
   refine⟨{steps:=st,conds:=co+1},?_,fun h=>by cases h⟩
   refine Ev.bind (v:=(_,true)) ?_ (Qa _)
   rw[Ys g1,YC g2]
   exact Qa _
  obtain⟨c3,p1,p2⟩:=ih (c.Parts.map ofCond) (d+1) st (co+1) (by
    rw[Qec]
    show _<cN c
    rw[Qfi];omega) (by simp;omega) (by
    intro g hg
    obtain⟨y,hy,rfl⟩:=List.mem_map.1 hg;exact wp2 y hy) (by omega) (by omega) (by omega) (.inl (by omega)) (by omega) (by omega)
  have eL:okL (c.Parts.map ofCond) (d+1) st (co+1)=(cD (d+1) c&&(decide (st<=64)&&decide (co+cN c<=256))):=by
   rw[Bool.eq_iff_iff,QfB _ _ _ _ (by omega) (by omega), <- Qgz,Qee,Qeg]
   simp only[Bool.and_eq_true,decide_eq_true_eq,cD_eq,Qfi]
   constructor
   ·rintro⟨h4,h5,h6⟩;exact⟨h4,by omega,by omega⟩
   ·rintro⟨h4,h5,h6⟩;exact⟨h4,by omega,by omega⟩
  rw[eL]at p1 p2
  refine⟨c3,?_,fun h=>?_⟩
  ·refine Ev.bind (v:=(c3, !(cD (d+1) c&&(decide (st<=64)&&decide (co+cN c<=256))))) ?_ ?_
   ·rw[Ys g1,Ys g2,ed]
    exact Ev.bind (Qcw c hw') (Ev.bind p1 (Qa _))
   ·cases(cD (d+1) c&&(decide (st<=64)&&decide (co+cN c<=256)))<;>exact Qa _
  ·rw[p2 h,Qee,Qeg,show fS (typing_form.ctyping_cond {Cond:=c})=0 from rfl,show fC (typing_form.ctyping_cond {Cond:=c})=cN c from rfl,Qfi]
   congr 1
   omega
theorem QkM:∀(m:Nat) (l:List typing_form) (d:Nat) (st co:Int),fZs l<=m->l.length<=2097152->(∀f∈l,fwf f)->d<=17->0<=st->st<=66->(st<=65\/ ∀f∈l,∃c,f=ofCond c)->0<=co->co<=256->Cnt F_c l d st co:=by
 intro m
 induction m using Nat.strongRecOn with
 |_ m ih=>
 intro l d st co hm hl hw hd h0 h1 h1' h2 h3
 unfold Cnt
 have unf:∀c:typing_count,(∃c':typing_count,Ev (fun n=>B_c (F_c n) n l (d:Int) c) (c',okL l d st co)/\(okL l d st co=true->c'={steps:=st+fSs l,conds:=co+fCs l}))->∃c':typing_count,Ev (fun n=>F_c n l (d:Int) c) (c',okL l d st co)/\(okL l d st co=true->c'={steps:=st+fSs l,conds:=co+fCs l}):=by
  rintro c ⟨c',q1,q2⟩
  exact⟨c',YP q1,q2⟩
 refine unf _ ?_
 unfold B_c
 cases hll:l with
 |nil=>
  refine⟨{steps:=st,conds:=co},?_,fun _=>by simp[fSs,fCs]⟩
  refine Ev.bind (v:=false) (Qa _) (YK ?_)
  refine Ev.bind (v:=Ctl.cont {steps:=st,conds:=co}) (EvI.ev (EvI.done ?_)) (Qa _)
  exact Qa _
 |cons f0 r0=>
 rw[<- hll]
 have hne:l.isEmpty=false:=by rw[hll];rfl
 have hpos:0<l.length:=by rw[hll];simp
 by_cases hdd:d<=16
 rotate_left
 ·have:okL l d st co=false:=by unfold okL;rw[hne,Ys hdd];rfl
  rw[this]
  refine⟨{steps:=st,conds:=co},?_,fun h=>by cases h⟩
  rw[YC (show(0:Int)<(l.length:Int)by omega),YC (show(16:Int)<(d:Int)by omega)]
  exact Ev.bind (Qa _) (Qa _)
 have eLR:okL l d st co=okR l d st co:=by unfold okL okR;rw[YC hdd,Bool.true_and]
 rw[eLR]
 have loop:∀(r:List typing_form) (i:Nat) (st co:Int),l.drop i=r->i<=l.length->0<=st->st<=66->(st<=65\/ ∀f∈l,∃c,f=ofCond c)->0<=co->co<=256->
   ∃c':typing_count,EvI (fun n=>F_fo n l (d:Int) (F_c n)) ({steps:=st,conds:=co},(i:Int)) (bif okR r d st co then Ctl.cont c' else Ctl.done (c',false))/\(okR r d st co=true->c'={steps:=st+fSs r,conds:=co+fCs r}):=by
  intro r
  induction r with
  |nil=>
   intro i st co hr hi _ _ _ _ _
   refine⟨{steps:=st,conds:=co},EvI.done ?_,fun _=>by simp[fSs,fCs]⟩
   unfold F_fo
   simp only[YB hr hi,cond_false]
   exact Qa _
  |cons f r ihr=>
   intro i st co hr hi g0 g1 g1' g2 g3
   obtain⟨ha,hr'⟩:=Q3 (by omega) hr
   have hfm:fZ f<=fZs l:=by
    have:∀(l:List typing_form),f∈l->fZ f<=fZs l:=by
     intro l
     induction l with
     |nil=>intro h;cases h
     |cons x l ih=>
      intro h
      rw[Qgx]
      rcases List.mem_cons.1 h with rfl|h
      ·omega
      ·have:=ih h;omega
    exact this l ha.mem
   obtain⟨c',p1,p2⟩:=QhA (R:=F_c) hdd ha (hw f ha.mem) (fun l' d' st co k1 k2 k3 k4 k5 k6 k6' k7 k8=>ih (fZs l') (by omega) l' d' st co (Nat.le_refl _) k2 k3 k4 k5 k6 k6' k7 k8) g0 g1 (g1'.imp id fun h=>h f ha.mem) g2 g3
   rw[Qki]
   cases hf:okF f d st co with
   |false=>
    rw[hf]at p1
    exact⟨c',EvI.done p1,fun h=>by cases h⟩
   |true=>
    rw[hf]at p1
    obtain rfl:=p2 hf
    have hb:st+fS f<=64/\co+fC f<=256:=by
     unfold okF at hf
     simp only[Bool.and_eq_true,decide_eq_true_eq]at hf
     exact hf.2
    obtain⟨c2,u1,u2⟩:=ihr (i+1) (st+fS f) (co+fC f) hr' (by have:=ha.lt';omega) (by omega) (by omega) (.inl (by omega)) (by omega) (by omega)
    refine⟨c2,EvI.cont p1 u1,fun h=>?_⟩
    rw[u2 (by simpa using h),Qgy,QgA]
    congr 1<;>omega
 obtain⟨c',p1,p2⟩:=loop l 0 st co rfl (Nat.zero_le _) h0 h1 h1' h2 h3
 refine⟨c',?_,p2⟩
 refine Ev.bind (v:=false) ?_ (YK (Ev.bind p1.ev ?_))
 ·rw[YC (show(0:Int)<(l.length:Int)by omega),Ys (show¬(16:Int)<(d:Int)by omega)]
  exact Qa _
 ·cases okR l d st co<;>exact Qa _
mutual
def vaC:Cond->Bool
 |⟨k,v,n,ps⟩=>bif k==1 then inR 1 3 v&&(inR 0 10000 n&&((ps.length:Int)==0))else
   bif k==4 then((v==0)&&(n==0))&&(((ps.length:Int)==1)&&vaCs ps)else
   bif (k==2)||(k==3)then((v==0)&&(n==0))&&((decide (0<(ps.length:Int))&&decide ((ps.length:Int)<=16))&&vaCs ps)else false
def vaCs:List Cond->Bool
 |[]=>true
 |c::r=>vaC c&&vaCs r
end
theorem QmI(c:Cond):vaC c=bif c.Kind==1 then inR 1 3 c.Var&&(inR 0 10000 c.N&&((c.Parts.length:Int)==0))else
   bif c.Kind==4 then((c.Var==0)&&(c.N==0))&&(((c.Parts.length:Int)==1)&&vaCs c.Parts)else
   bif (c.Kind==2)||(c.Kind==3)then((c.Var==0)&&(c.N==0))&&((decide (0<(c.Parts.length:Int))&&decide ((c.Parts.length:Int)<=16))&&vaCs c.Parts)else false:=by cases c;rfl
theorem QhT:∀l:List Cond,vaCs l=l.all vaC
 |[]=>rfl
 |c::r=>by rw[vaCs,List.all_cons,QhT r]
mutual
def vaS:Step->Bool
 |⟨k,b,c,t,e⟩=>bif k==1 then inR 1 5 b&&(zeroC c&&(((t.length:Int)==0)&&((e.length:Int)==0)))else
   bif k==2 then(b==0)&&(vaC c&&(decide (0<(t.length:Int))&&(vaSs t&&vaSs e)))else false
def vaSs:List Step->Bool
 |[]=>true
 |s::r=>vaS s&&vaSs r
end
theorem QmH(s:Step):vaS s=bif s.Kind==1 then inR 1 5 s.By&&(zeroC s.Cond&&(((s.Then.length:Int)==0)&&((s.Else.length:Int)==0)))else
   bif s.Kind==2 then(s.By==0)&&(vaC s.Cond&&(decide (0<(s.Then.length:Int))&&(vaSs s.Then&&vaSs s.Else)))else false:=by cases s;rfl
theorem QhS:∀l:List Step,vaSs l=l.all vaS
 |[]=>rfl
 |c::r=>by rw[vaSs,List.all_cons,QhS r]
def fV:typing_form->Bool
 |.ctyping_step x=>vaS x.Step
 |.ctyping_cond x=>vaC x.Cond
theorem QhC(l:List Cond):(l.map ofCond).any (fun f=> !fV f)= !vaCs l:=by
 rw[QhT,List.not_all_eq_any_not,List.any_map]
 rfl
theorem Qb9(l:List Step):(l.map ofStep).any (fun f=> !fV f)= !vaSs l:=by
 rw[QhS,List.not_all_eq_any_not,List.any_map]
 rfl
theorem Qe4{R:Nat->List typing_form->Option Bool}(c:Cond)(hw:Cond.wf c)(ih:Ev (fun n=>R n (c.Parts.map ofCond)) (!vaCs c.Parts)):
  Ev (fun n=>F_cj (R n) n {Cond:=c}) (vaC c):=by
 unfold F_cj
 rw[QmI]
 refine Ev.bind (v:=(c.Var==0)&&(c.N==0)) (Ev.and fun _=>Qa _) ?_
 refine YL (fun _=>?_) (fun h1=>?_)
 ·exact Ev.bind (Ev.bind (Qy _ _ _) (Ev.and fun _=>Ev.bind (Qy _ _ _) (Ev.and fun _=>Qa _))) (Qa _)
 ·have fin:∀b:Bool,Ev (fun n=>((bif b then(F_m n {Cond:=c}).bind fun r42=>(R n r42).bind fun r43=>some (!r43)else some false):Option Bool).bind fun b39=>some b39) (b&&vaCs c.Parts):=by
   intro b
   refine Ev.bind ((Ev.and fun _=>Ev.bind (Qcw c hw) (Ev.bind ih (Qa _)))) ((Qa _).eq (by simp))
  cases h4:(c.Kind==4)with
  |true=>
   simp only[cond_true]
   cases hp:((c.Var==0)&&(c.N==0))with
   |true=>
    refine Ev.bind (v:=Ctl.cont ((c.Parts.length:Int)==1)) (Qa _) ((fin _).eq (by simp))
   |false=>
    refine Ev.bind (v:=Ctl.cont false) (Qa _) ((fin _).eq (by simp))
  |false=>
   simp only[cond_false]
   cases h23:((c.Kind==2)||(c.Kind==3))with
   |true=>
    simp only[cond_true]
    have e:Ev (fun n:Nat=>((bif (c.Kind==2)then some (c.Kind==2)else some (c.Kind==3)):Option Bool)) true:=by
     refine Ev.const ?_
     rw[Qk1,h23]
    cases hp:((c.Var==0)&&(c.N==0))with
    |true=>
     cases h0:decide (0<(c.Parts.length:Int))with
     |true=>
      refine Ev.bind (v:=Ctl.cont (decide ((c.Parts.length:Int)<=16))) (Ev.bind e (Qa _)) ((fin _).eq (by simp))
     |false=>
      refine Ev.bind (v:=Ctl.cont false) (Ev.bind e (Qa _)) ((fin _).eq (by simp))
    |false=>
     refine Ev.bind (v:=Ctl.cont false) (Ev.bind e (Qa _)) ((fin _).eq (by simp))
   |false=>
    have e:Ev (fun n:Nat=>((bif (c.Kind==2)then some (c.Kind==2)else some (c.Kind==3)):Option Bool)) false:=by
     refine Ev.const ?_
     rw[Qk1,h23]
    refine Ev.bind (v:=Ctl.done false) (Ev.bind e (Qa _)) (Qa _)
theorem Qhr:∀(m:Nat) (l:List typing_form),fZs l<=m->l.length<=2097152->(∀f∈l,fwf f)->Ev (fun n=>F_h n l) (l.any fun f=> !fV f):=by
 intro m
 induction m using Nat.strongRecOn with
 |_ m ih=>
 intro l hm hl hw
 refine YP ?_
 show Ev (fun n=>B_h (F_h n) n l) _
 unfold B_h F_gg
 refine Ev.contains l _ (fun n f=>F_cd (F_h n) n f) (by omega) fun f hf=>?_
 have hfm:fZ f<=fZs l:=by
  have:∀(l:List typing_form),f∈l->fZ f<=fZs l:=by
   intro l
   induction l with
   |nil=>intro h;cases h
   |cons x l ih=>
    intro h
    rw[Qgx]
    rcases List.mem_cons.1 h with rfl|h
    ·omega
    ·have:=ih h;omega
  exact this l hf
 unfold F_cd
 refine Ev.bind (v:=fV f) ?_ (Qa _)
 have condIH:∀c:Cond,Cond.wf c->cNs c.Parts<fZ f->Ev (fun n=>F_h n (c.Parts.map ofCond)) (!vaCs c.Parts):=by
  intro c hc hs
  rw[<- QhC]
  obtain⟨w1,w2⟩:=Qak hc
  refine ih (fZs (c.Parts.map ofCond)) (by rw[Qec];omega) _ (Nat.le_refl _) (by simp;omega) ?_
  intro g hg
  obtain⟨y,hy,rfl⟩:=List.mem_map.1 hg;exact w2 y hy
 cases f with
 |ctyping_cond x=>
  obtain⟨c⟩:=x
  have hc:Cond.wf c:=hw _ hf
  exact Qe4 (R:=F_h) c hc (condIH c hc (by show cNs c.Parts<cN c;rw[Qfi];omega))
 |ctyping_step x=>
  obtain⟨s⟩:=x
  have hs:Step.wf s:=hw _ hf
  obtain⟨wc,⟨wt1,wt2⟩,⟨we1,we2⟩⟩:=Qaj hs
  unfold F_fn
  show Ev _ (vaS s)
  rw[QmH]
  simp only[typing_form.elim]
  refine YL (fun _=>?_) (fun h1=>YL (fun _=>?_) fun _=>Qa _)
  ·refine Ev.bind (Ev.bind (Qy _ _ _) (Ev.and fun _=>?_)) (Qa _)
   simp only[Qe7,Option.bind_some]
   refine Ev.and fun _=>Ev.bind (Qbh s hs) ((Qa _).eq ?_)
   unfold stepParts
   rw[Bool.eq_iff_iff]
   simp only[beq_iff_eq,Bool.and_eq_true,List.length_append,List.length_map]
   omega
  ·refine Ev.bind (Ev.and fun _=>?_) (Qa _)
   refine Ev.bind (Qe4 (R:=F_h) s.Cond wc (condIH s.Cond wc (by show _<sZ s;rw[Qh1,Qfi];omega))) (Ev.and fun _=>Ev.and fun _=>?_)
   refine Ev.bind (Qbh s hs) (Ev.bind (ih (fZs (stepParts s)) ?_ _ (Nat.le_refl _) (by unfold stepParts;simp;omega) ?_) ((Qa _).eq ?_))
   ·have:fZs (stepParts s)<sZ s:=by
     unfold stepParts
     rw[Qeb,QbE,QbE,Qh1];omega
    have h2:fZ (typing_form.ctyping_step {Step:=s})=sZ s:=rfl
    omega
   ·intro g hg
    unfold stepParts at hg
    rcases List.mem_append.1 hg with hg|hg
    ·obtain⟨y,hy,rfl⟩:=List.mem_map.1 hg;exact wt2 y hy
    ·obtain⟨y,hy,rfl⟩:=List.mem_map.1 hg;exact we2 y hy
   ·unfold stepParts
    rw[List.any_append,Qb9,Qb9]
    simp
def goodT(l:List Step):Bool:=sDs 0 l&&(decide (sNs l<=64)&&decide (sCs l<=256))
def tiesE(l:List Step):Int:=bif goodT l then(bif l.isEmpty|| !vaSs l then 71 else 0)else 2
theorem Qkj(l:List Step):okL (l.map ofStep) 0 0 0=goodT l:=by
 rw[Bool.eq_iff_iff,QfB _ _ _ _ (by omega) (by omega), <- Qcu,Qa2,Qa3]
 unfold goodT
 simp only[Bool.and_eq_true,decide_eq_true_eq]
 constructor
 ·rintro⟨a,b,c⟩;exact⟨a,by omega,by omega⟩
 ·rintro⟨a,b,c⟩;exact⟨a,by omega,by omega⟩
theorem Ql0(l:List Step)(hl:l.length<=1048576)(hw:∀x∈l,Step.wf x):Ev (fun n=>F_bv n l) (tiesE l):=by
 unfold F_bv
 refine Ev.bind (Qeh l (by omega)) (Ev.bind (v:=tiesE l) ?_ (Qa _))
 have fw:∀f∈l.map ofStep,fwf f:=by
  intro g hg
  obtain⟨y,hy,rfl⟩:=List.mem_map.1 hg;exact hw y hy
 obtain⟨c',p1,p2⟩:=QkM _ (l.map ofStep) 0 0 0 (Nat.le_refl _) (by simp;omega) fw (by omega) (by omega) (by omega) (.inl (by omega)) (by omega) (by omega)
 rw[Qkj]at p1
 unfold F_dy
 have p3:Ev (fun n=>F_ee n (l.map ofStep) 0 {steps:=0,conds:=0}) (c',goodT l):=p1.shift
 refine Ev.bind p3 ?_
 unfold tiesE
 cases goodT l with
 |false=>exact Qa _
 |true=>
  simp only[Bool.not_true,cond_false,cond_true]
  have e:(((l.map ofStep).length:Int)==0)=l.isEmpty:=by
   cases l<;>simp
   omega
  rw[e]
  refine Ev.bind (Ql fun _=>Ev.bind (Qhr _ _ (Nat.le_refl _) (by simp;omega) fw) (Qa _)) ?_
  rw[Qb9]
  cases(l.isEmpty|| !vaSs l)<;>exact Qa _
mutual
def hP:Part->Nat
 |⟨_,_,ps⟩=>bif ps.isEmpty then 0 else 1+hPs ps
def hPs:List Part->Nat
 |[]=>0
 |p::r=>max (hP p) (hPs r)
end
theorem QmA(p:Part):hP p=bif p.Parts.isEmpty then 0 else 1+hPs p.Parts:=by cases p;rfl
theorem Qh9{p:Part}:∀{l:List Part},p∈l->hP p<=hPs l
 |q::r,h=>by
  simp only[hPs]
  rcases List.mem_cons.1 h with rfl|h
  ·omega
  ·have:=Qh9 h;omega
theorem Qcr{α:Type}(l:List α):((l.length:Int)==0)=l.isEmpty:=by
 cases l<;>simp
 omega
theorem Qal:∀l:List Part,l.length<=szPs l
 |[]=>Nat.le_refl _
 |p::r=>by have:=Qal r;rw[szPs,Qac,List.length_cons];omega
theorem QkL:∀(m:Nat) (l:List Part) (k:Nat),szPs l<=m->hPs l<=k->k<=17->szPs l<=256->(∀x∈l,Part.wf x)->Ev (fun n=>F_b n l (k:Int)) ((hPs l:Int),(szPs l:Int)):=by
 intro m
 induction m using Nat.strongRecOn with
 |_ m ih=>
 intro l k hm hk hk17 hs256 hw
 have hlen:=Qal l
 refine YP ?_
 show Ev (fun n=>B_b (F_b n) n l (k:Int)) _
 unfold B_b
 have loop:∀(r:List Part) (i:Nat) (a b:Nat),l.drop i=r->i<=l.length->a<=17->b+(szPs r-r.length)<=256->EvI (fun n=>F_z n l (k:Int) (F_b n)) ((a:Int),(b:Int),(i:Int)) (((max a (hPs r):Nat):Int),((b+(szPs r-r.length):Nat):Int)):=by
  intro r
  induction r with
  |nil=>
   intro i a b hr hi _ _
   refine EvI.done ?_
   unfold F_z
   simp only[YB hr hi,cond_false,Option.bind_some]
   refine(Qa _).eq ?_
   simp[hPs,szPs]
  |cons p r ihr=>
   intro i a b hr hi ha0 hb0
   obtain⟨ha,hr'⟩:=Q3 (by omega) hr
   obtain⟨w1,w2⟩:=YS (hw p ha.mem)
   have hs:=QaV ha.mem
   have hh:=Qh9 ha.mem
   rw[Qac]at hs
   have hr2:=Qal r
   rw[szPs,Qac,List.length_cons]at hb0
   have step:Ev (fun n=>F_z n l (k:Int) (F_b n) ((a:Int),(b:Int),(i:Int))) (.cont (((max a (hP p):Nat):Int),((b+szPs p.Parts:Nat):Int),((i+1:Nat):Int))):=by
    unfold F_z
    simp only[ha.lt,cond_true,ha.ix,Option.bind_some,ha.nx,Qcr]
    rw[QmA]at hh⊢
    cases hp:p.Parts.isEmpty with
    |true=>
     have e0:p.Parts=[]:=by simpa using hp
     simp only[cond_true,Option.bind_some]
     rw[e0]
     simp only[szPs,Nat.add_zero,Nat.max_zero]
     exact Qa _
    |false=>
     rw[hp]at hh
     simp only[cond_false]at hh⊢
     have hk0:0<k:=by omega
     have e1:IntKind.i64.wrap ((k:Int)-1)=((k-1:Nat):Int):=by rw[Ye (by omega) (by omega)];omega
     have e2:((k:Int)==0)=false:=beq_false_of_ne (by omega)
     rw[e2,Ys (show¬(256:Int)<(b:Int)by omega),e1]
     simp only[cond_false,Option.bind_some]
     refine Ev.bind (Ev.bind (ih (szPs p.Parts) (by omega) p.Parts (k-1) (Nat.le_refl _) (by omega) (by omega) (by omega) w2) (Qa _)) ((Qa _).eq ?_)
     have e3:IntKind.i64.wrap ((hPs p.Parts:Int)+1)=((hPs p.Parts+1:Nat):Int):=QaB (by omega)
     have e4:IntKind.i64.wrap ((b:Int)+(szPs p.Parts:Int))=((b+szPs p.Parts:Nat):Int):=by rw[Ye (by omega) (by omega)];omega
     simp only[e3,e4]
     congr 2
     split<;>omega
   refine(EvI.cont step (ihr (i+1) _ _ hr' (by have:=ha.lt';omega) (by omega) (by omega))).eq ?_
   rw[hPs,szPs,Qac,List.length_cons]
   congr 1<;>omega
 refine Ev.bind ((loop l 0 0 l.length rfl (Nat.zero_le _) (by omega) (by omega)).ev) ((Qa _).eq ?_)
 congr 1<;>omega
def repS:Nat->List Int->List Int->List Int
 |0,out,_=>out
 |k+1,out,lap=>if 256<out.length then out else repS k (out++lap) lap
mutual
def lapS:Part->List Int
 |⟨m,laps,ps⟩=>bif decide (0<laps)then expS [] ps else[m]
def expS:List Int->List Part->List Int
 |out,[]=>out
 |out,p::r=>expS (repS (p.Laps.toNat+(bif decide (0<p.Laps)then 0 else 1)) out (lapS p)) r
end
theorem Qdu(p:Part):lapS p=bif decide (0<p.Laps)then expS [] p.Parts else[p.Mat]:=by cases p;rfl
theorem QdS{k:Nat}{out lap:List Int}(h:256<out.length):repS k out lap=out:=by
 cases k with
 |zero=>rfl
 |succ k=>rw[repS,if_pos h]
theorem QgC:∀(l:List Part) {out:List Int},256<out.length->expS out l=out
 |[],out,h=>by rw[expS]
 |p::r,out,h=>by rw[expS,QdS h];exact QgC r h
theorem QdR:∀(k:Nat) (out lap:List Int),(repS k out lap).length<=max out.length (256+lap.length)
 |0,out,lap=>by rw[repS];omega
 |k+1,out,lap=>by
  rw[repS]
  split
  ·omega
  ·have:=QdR k (out++lap) lap
   rw[List.length_append]at this
   omega
theorem QgB:∀(m:Nat) (l:List Part) (out:List Int),szPs l<=m->(expS out l).length<=max out.length (256+257*szPs l):=by
 intro m
 induction m using Nat.strongRecOn with
 |_ m ih=>
 intro l
 have lapL:∀p∈l,szPs l<=m->(lapS p).length<=257*szP p:=by
  intro p hp hm
  have hs:=QaV hp
  rw[Qdu,Qac]at*
  cases decide (0<p.Laps)with
  |true=>
   have:=ih (szPs p.Parts) (by omega) p.Parts [] (Nat.le_refl _)
   simp only[cond_true,List.length_nil]at this⊢
   omega
  |false=>simp;omega
 have gen:∀(r:List Part) (out:List Int),(∀p∈r,(lapS p).length<=257*szP p)->(expS out r).length<=max out.length (256+257*szPs r):=by
  intro r
  induction r with
  |nil=>intro out _;rw[expS];omega
  |cons p r ihr=>
   intro out hl
   rw[expS,szPs]
   have h1:=ihr (repS (p.Laps.toNat+(bif decide (0<p.Laps)then 0 else 1)) out (lapS p)) fun q hq=>hl q (by simp[hq])
   have h2:=QdR (p.Laps.toNat+(bif decide (0<p.Laps)then 0 else 1)) out (lapS p)
   have h3:=hl p (by simp)
   omega
 intro out hm
 exact gen l out fun p hp=>lapL p hp hm
theorem Qko(p:Part):(lapS p).length<=257*szP p:=by
 rw[Qdu,Qac]
 cases decide (0<p.Laps)with
 |true=>
  have:=QgB _ p.Parts [] (Nat.le_refl _)
  simp only[cond_true,List.length_nil]at this⊢
  omega
 |false=>simp;omega
theorem Qi1(kk:Int):∀(m:Nat) (l:List Part),szPs l<=m->szPs l<=256->l.length<=1048576->(∀x∈l,Part.wf x)->partsS kk l=true->Ev (fun n=>F_l n l) (expS [] l):=by
 intro m
 induction m using Nat.strongRecOn with
 |_ m ih=>
 intro l hm hs256 hl hw hv
 rw[QcV,List.all_eq_true]at hv
 refine YP ?_
 show Ev (fun n=>B_l (F_l n) n l) _
 unfold B_l
 have inner:∀(p:Part) (lap:List Int) (hp:p.Laps=0\/0<p.Laps/\p.Laps<=64) (hlap:lap.length<=100000) (j:Nat) (k:Nat) (out:List Int),j+k=p.Laps.toNat+(bif decide (0<p.Laps)then 0 else 1)->out.length<=200000->
   ∃res:Ctl (List Int) (Ctl ((List Int)×Int) (Ctl (List Int) (List Int))),EvI (fun n=>F_du n p lap) (out,(j:Int)) res/\
    (res=.cont (repS k out lap)\/(256<(repS k out lap).length/\res=.done (.done (.done (repS k out lap))))):=by
  intro p lap hp hlap j k
  induction k generalizing j with
  |zero=>
   intro out hj _
   refine⟨_,EvI.done (b:=.cont out) ?_,.inl rfl⟩
   unfold F_du
   have:¬((j:Int)<if p.Laps<1 then 1 else p.Laps):=by
    rcases hp with h|⟨h,h'⟩
    ·rw[h]at hj⊢;simp at hj⊢;omega
    ·rw[YC h]at hj;simp at hj;rw[if_neg (by omega)];omega
   rw[Ys this]
   exact Qa _
  |succ k ihk=>
   intro out hj hout
   have hlt:((j:Int)<if p.Laps<1 then 1 else p.Laps):=by
    rcases hp with h|⟨h,h'⟩
    ·rw[h]at hj⊢;simp at hj⊢;omega
    ·rw[YC h]at hj;simp at hj;rw[if_neg (by omega)];omega
   have hj64:j<=64:=by
    rcases hp with h|⟨h,h'⟩
    ·rw[h]at hj;simp at hj;omega
    ·rw[YC h]at hj;simp at hj;omega
   by_cases hb:256<out.length
   ·refine⟨_,EvI.done (b:=.done (.done (.done out))) ?_,.inr ⟨by rw[QdS hb];exact hb,by rw[QdS hb]⟩⟩
    unfold F_du
    rw[YC hlt,YC (show(256:Int)<(out.length:Int)by omega)]
    exact Qa _
   ·obtain⟨res,p1,p2⟩:=ihk (j+1) (out++lap) (by omega) (by rw[List.length_append];omega)
    refine⟨res,EvI.cont ?_ p1,by rw[repS,if_neg hb];exact p2⟩
    unfold F_du
    rw[YC hlt,Ys (show¬(256:Int)<(out.length:Int)by omega)]
    refine Qlt (YK (QaK (QgV out lap (by omega)) ?_))
    rw[QaB (by omega)]
    exact Qa _
 have loop:∀(r:List Part) (i:Nat) (out:List Int),l.drop i=r->i<=l.length->out.length<=100000->
   ∃res:Ctl (List Int) (List Int),EvI (fun n=>F_ek n l (F_l n)) (out,(i:Int)) res/\(res=.cont (expS out r)\/res=.done (expS out r)):=by
  intro r
  induction r with
  |nil=>
   intro i out hr hi _
   refine⟨.cont out,EvI.done ?_,.inl (by rw[expS])⟩
   unfold F_ek
   simp only[YB hr hi,cond_false]
   exact Qa _
  |cons p r ihr=>
   intro i out hr hi hout
   obtain⟨ha,hr'⟩:=Q3 (by omega) hr
   have hlt:=ha.lt'
   have hs:=QaV ha.mem
   obtain⟨w1,w2⟩:=YS (hw p ha.mem)
   have hp:=hv p ha.mem
   rw[QdV]at hp
   have hlaps:p.Laps=0\/0<p.Laps/\p.Laps<=64:=by
    cases h0:(p.Laps==0)with
    |true=>exact .inl (by simpa using h0)
    |false=>
     rw[h0]at hp
     simp only[cond_false,inR,Bool.and_eq_true,decide_eq_true_eq]at hp
     exact .inr ⟨by omega,by omega⟩
   have hll:=Qko p
   have hb:Ev (fun n=>((bif decide (0<p.Laps)then(F_l n p.Parts).bind fun r62=>some r62 else some [p.Mat]):Option (List Int))) (lapS p):=by
    rw[Qdu]
    refine YL (fun h=>?_) (fun _=>Qa _)
    rw[Qac]at hs
    refine Ev.bind (ih (szPs p.Parts) (by omega) p.Parts (Nat.le_refl _) (by omega) w1 w2 ?_) (Qa _)
    have:(p.Laps==0)=false:=by
     simp only[decide_eq_true_eq]at h
     exact beq_false_of_ne (by omega)
    rw[this]at hp
    simp only[cond_false,Bool.and_eq_true]at hp
    exact hp.2.2.2
   obtain⟨res,p1,p2⟩:=inner p (lapS p) hlaps (by omega) 0 _ out (Nat.zero_add _) (by omega)
   rw[expS]
   rcases p2 with rfl|⟨hbig,rfl⟩
   ·obtain⟨res2,q1,q2⟩:=ihr (i+1) (repS (p.Laps.toNat+(bif decide (0<p.Laps)then 0 else 1)) out (lapS p)) hr' (by omega) (by
     have:=QdR (p.Laps.toNat+(bif decide (0<p.Laps)then 0 else 1)) out (lapS p)
     omega)
    refine⟨res2,EvI.cont ?_ q1,q2⟩
    unfold F_ek
    simp only[ha.lt,cond_true,ha.ix,Option.bind_some,ha.nx]
    exact Ev.bind hb (Ev.bind p1.ev (Qa _))
   ·refine⟨.done (repS (p.Laps.toNat+(bif decide (0<p.Laps)then 0 else 1)) out (lapS p)),EvI.done ?_,.inr (by rw[QgC r hbig])⟩
    unfold F_ek
    simp only[ha.lt,cond_true,ha.ix,Option.bind_some,ha.nx]
    exact Ev.bind hb (Ev.bind p1.ev (Qa _))
 obtain⟨res,p1,p2⟩:=loop l 0 [] rfl (Nat.zero_le _) (by simp)
 rcases p2 with rfl|rfl
 ·exact Ev.bind p1.ev (Qa _)
 ·exact Ev.bind p1.ev (Qa _)
def kindAt(c:Course)(m:Int):Int:=((c.Mats[m.toNat]?).map (·.Kind)).getD 0
def hasLeg(c:Course)(a b:Int):Bool:=c.Legs.any fun l=>(l.From==a)&&(l.To==b)
def rokS(c:Course)(len:Nat):Nat->Int->List Int->Bool
 |_,_,[]=>true
 |i,prev,m::r=>((kindAt c m==1)==decide (i=0))&&(((kindAt c m==3)==decide (i+1=len))&&((decide (i=0)||hasLeg c prev m)&&rokS c len (i+1) m r))
def routeR(c:Course)(d:Distance)(r:List Int):Bool:=
 (decide (2<=r.length)&&decide (r.length<=256))&&(rokS c r.length 0 0 r&&((bif decide (0<=d.Extra)then !((r.count d.Extra:Int)==0)&&((kindAt c d.Extra==2)&&hasLeg c d.Extra d.Extra)else true)&&d.Cutoffs.all fun x=>decide (x.Lap<=(r.count x.Mat:Int))))
def routeS(c:Course)(d:Distance):Bool:=routeR c d (expS [] d.Route)
def cntM(l:List Int):List (Int×Int):=l.foldl (fun m k=>QQ m k (QG m k 0+1)) []
theorem Qja(l:List Int)(k:Int):cntM (l++[k])=QQ (cntM l) k (QG (cntM l) k 0+1):=by unfold cntM;rw[List.foldl_append];rfl
theorem Qeo(l:List Int)(k:Int):QG (cntM l) k 0=(l.count k:Int):=by
 have gen:∀(l:List Int) (m:List (Int×Int)),QG (l.foldl (fun m k=>QQ m k (QG m k 0+1)) m) k 0=QG m k 0+(l.count k:Int):=by
  intro l
  induction l with
  |nil=>intro m;simp
  |cons x l ih=>
   intro m
   rw[List.foldl_cons,ih,QdZ,List.count_cons]
   by_cases h:k=x
   ·subst h;simp;omega
   ·have:(x==k)=false:=beq_false_of_ne fun e=>h e.symm
    simp[h,this]
 have:=gen l []
 simpa[cntM,QiQ]using this
theorem Qhi(kk:Int):∀(m:Nat) (l:List Part) (out:List Int),szPs l<=m->partsS kk l=true->(∀x∈out,0<=x/\x<=kk)->∀x∈expS out l,0<=x/\x<=kk:=by
 intro m
 induction m using Nat.strongRecOn with
 |_ m ih=>
 intro l
 have rep:∀(k:Nat) (out lap:List Int),(∀x∈out,0<=x/\x<=kk)->(∀x∈lap,0<=x/\x<=kk)->∀x∈repS k out lap,0<=x/\x<=kk:=by
  intro k
  induction k with
  |zero=>intro out lap h1 _;rw[repS];exact h1
  |succ k ihk=>
   intro out lap h1 h2
   rw[repS]
   split
   ·exact h1
   ·refine ihk _ _ ?_ h2
    intro x hx
    rcases List.mem_append.1 hx with h|h
    ·exact h1 x h
    ·exact h2 x h
 have gen:∀(r:List Part) (out:List Int),szPs r<=m->partsS kk r=true->(∀x∈out,0<=x/\x<=kk)->∀x∈expS out r,0<=x/\x<=kk:=by
  intro r
  induction r with
  |nil=>intro out _ _ h;rw[expS];exact h
  |cons p r ihr=>
   intro out hm hv h
   rw[szPs,Qac]at hm
   rw[partsS,Bool.and_eq_true]at hv
   obtain⟨hp,hr⟩:=hv
   rw[expS]
   refine ihr _ (by omega) hr (rep _ _ _ h ?_)
   rw[Qdu]
   rw[QdV]at hp
   cases h0:(p.Laps==0)with
   |true=>
    have e0:p.Laps=0:=by simpa using h0
    rw[h0,cond_true,Bool.and_eq_true]at hp
    have:=hp.1
    unfold inR at this
    simp only[Bool.and_eq_true,decide_eq_true_eq]at this
    rw[e0]
    intro x hx
    simp at hx
    subst hx
    exact this
   |false=>
    rw[h0]at hp
    simp only[cond_false,Bool.and_eq_true,inR,decide_eq_true_eq]at hp
    rw[YC (show 0<p.Laps by omega),cond_true]
    exact ih (szPs p.Parts) (by omega) p.Parts [] (Nat.le_refl _) hp.2.2.2 (by simp)
 exact fun out hm hv h=>gen l out hm hv h
theorem Qh7{c:Course}{m:Int}(h0:0<=m)(h1:m<=(c.Mats.length:Int)-1):∃x:Mat,idx c.Mats m=some x/\x.Kind=kindAt c m:=by
 obtain⟨k,rfl⟩:∃k:Nat,m=(k:Int):=⟨m.toNat,by omega⟩
 have hlt:k<c.Mats.length:=by omega
 refine⟨c.Mats[k],QV (List.getElem?_eq_getElem hlt),?_⟩
 unfold kindAt
 rw[Int.toNat_natCast,List.getElem?_eq_getElem hlt];rfl
theorem Qgn(c:Course)(a b:Int):QG (Q0 legKey true c.Legs) {from_:=a,to_:=b} false=hasLeg c a b:=by
 rw[QbD]
 unfold hasLeg
 by_cases h:({from_:=a,to_:=b}:typing_ends)∈c.Legs.map legKey
 ·rw[if_pos h]
  obtain⟨l,hl,e⟩:=List.mem_map.1 h
  unfold legKey at e
  obtain⟨e1,e2⟩:=ends_eq.1 e
  exact(List.any_eq_true.2 ⟨l,hl,by simp[e1,e2]⟩).symm
 ·rw[if_neg h]
  symm
  rw[Bool.eq_false_iff]
  intro q
  obtain⟨l,hl,e⟩:=List.any_eq_true.1 q
  simp only[Bool.and_eq_true,beq_iff_eq]at e
  exact h (List.mem_map.2 ⟨l,hl,by unfold legKey;rw[e.1,e.2]⟩)
structure NumOk (c:Course):Prop where
 kinds:∀m∈c.Mats,1<=m.Kind/\m.Kind<=3
 dist:∀d∈c.Distances,-1<=d.Extra/\d.Extra<=(c.Mats.length:Int)-1/\partsS ((c.Mats.length:Int)-1) d.Route=true
theorem Qlo{c:Course}(h:numbersS c=true):NumOk c:=by
 unfold numbersS at h
 simp only[Bool.and_eq_true,List.all_eq_true]at h
 refine⟨fun m hm=>?_,fun d hd=>?_⟩
 ·have:=h.1 m hm
  unfold inR at this
  simpa using this
 ·have:=h.2.2.2.1 d hd
  unfold distS at this
  simp only[Bool.and_eq_true]at this
  obtain⟨_,h2,h3,_⟩:=this
  unfold inR at h2
  simp only[Bool.and_eq_true,decide_eq_true_eq]at h2
  exact⟨h2.1,h2.2,h3⟩
theorem Qnh{c:Course}(q:NumOk c){d:Distance}(hd:d∈c.Distances):∀x∈expS [] d.Route,0<=x/\x<=(c.Mats.length:Int)-1:=
 Qhi _ _ d.Route [] (Nat.le_refl _) (q.dist d hd).2.2 (by simp)
theorem QjY(c:Course)(len i:Nat)(prev m:Int)(r:List Int):rokS c len i prev (m::r)=(((kindAt c m==1)==decide (i=0))&&(((kindAt c m==3)==decide (i+1=len))&&((decide (i=0)||hasLeg c prev m)&&rokS c len (i+1) m r))):=rfl
theorem QlN(i:Nat):((i:Int)==0)=decide (i=0):=by
 rw[Bool.eq_iff_iff];simp
theorem QeO(c:Course)(r:List Int)(hr2:2<=r.length)(hr:r.length<=256)(hm:∀x∈r,0<=x/\x<=(c.Mats.length:Int)-1):
  Ev (fun n=>iter (F_cw n c (Q0 legKey true c.Legs) r) n ([],0)) (bif rokS c r.length 0 0 r then .cont (cntM r)else .done false):=by
 have loop:∀(t:List Int) (i:Nat) (prev:Int),r.drop i=t->i<=r.length->(0<i->At r (i-1) prev)->EvI (fun n=>F_cw n c (Q0 legKey true c.Legs) r) (cntM (r.take i),(i:Int)) (bif rokS c r.length i prev t then .cont (cntM r)else .done false):=by
  intro t
  induction t with
  |nil=>
   intro i prev ht hi _
   refine EvI.done ?_
   unfold F_cw
   simp only[YB ht hi,cond_false,rokS,cond_true]
   have:r.length<=i:=by simpa using ht
   rw[List.take_of_length_le this]
   exact Qa _
  |cons m t ih=>
   intro i prev ht hi hp
   obtain⟨ha,ht'⟩:=Q3 (by omega) ht
   have hlt:=ha.lt'
   obtain⟨h0,h1⟩:=hm m ha.mem
   obtain⟨x,e1,e2⟩:=Qh7 h0 h1
   have e3:IntKind.i64.wrap ((r.length:Int)-1)=((r.length-1:Nat):Int):=by rw[Ye (by omega) (by omega)];omega
   have e4:((i:Int)==((r.length-1:Nat):Int))=decide (i+1=r.length):=by rw[Bool.eq_iff_iff];simp;omega
   have hc:Ev (fun n:Nat=>((bif ((x.Kind==1) != ((i:Int)==0))then some true else(bif ((x.Kind==3) != ((i:Int)==(IntKind.i64.wrap ((r.length:Int)-1))))then some true else(bif decide (0<(i:Int))then(idx r (IntKind.i64.wrap ((i:Int)-1))).bind fun x57=>(some (QG (Q0 legKey true c.Legs) ({from_:=x57,to_:=m:typing_ends}) false)).bind fun v58=>some (!v58)else some false))):Option Bool))
     (!(((kindAt c m==1)==decide (i=0))&&(((kindAt c m==3)==decide (i+1=r.length))&&(decide (i=0)||hasLeg c prev m)))):=by
    rw[e2,e3,e4,QlN]
    refine Ev.eq (Ql fun _=>Ql fun _=>YL (v:= !hasLeg c prev m) (w:=false) (fun h=>?_) fun _=>Qa _) ?_
    ·have hi0:0<i:=by simpa using h
     have e5:IntKind.i64.wrap ((i:Int)-1)=((i-1:Nat):Int):=by rw[Ye (by omega) (by omega)];omega
     rw[e5,(hp hi0).ix]
     simp only[Option.bind_some,Qgn]
     exact Qa _
    ·have e6:decide (0<(i:Int))= !decide (i=0):=by rw[Bool.eq_iff_iff];simp;omega
     rw[e6]
     cases(kindAt c m==1)<;>cases decide (i=0)<;>cases(kindAt c m==3)<;>cases decide (i+1=r.length)<;>cases hasLeg c prev m<;>rfl
   have hcnt:IntKind.i64.wrap (QG (cntM (r.take i)) m 0+1)=QG (cntM (r.take i)) m 0+1:=by
    rw[Qeo]
    have:(r.take i).count m<=i:=by have:=List.count_le_length (a:=m) (l:=r.take i);simp at this;omega
    exact Ye (by omega) (by omega)
   have step:Ev (fun n=>F_cw n c (Q0 legKey true c.Legs) r (cntM (r.take i),(i:Int))) (bif ((kindAt c m==1)==decide (i=0))&&(((kindAt c m==3)==decide (i+1=r.length))&&(decide (i=0)||hasLeg c prev m))then .cont (cntM (r.take (i+1)),((i+1:Nat):Int))else .done (.done false)):=by
    unfold F_cw
    simp only[ha.lt,cond_true,ha.ix,Option.bind_some,ha.nx,e1]
    refine Ev.bind hc ?_
    rw[hcnt, <- Qja, <- ha.take]
    cases(((kindAt c m==1)==decide (i=0))&&(((kindAt c m==3)==decide (i+1=r.length))&&(decide (i=0)||hasLeg c prev m)))<;>exact Qa _
   have e7:rokS c r.length i prev (m::t)=((((kindAt c m==1)==decide (i=0))&&(((kindAt c m==3)==decide (i+1=r.length))&&(decide (i=0)||hasLeg c prev m)))&&rokS c r.length (i+1) m t):=by rw[QjY];simp only[Bool.and_assoc]
   rw[e7]
   cases hv:(((kindAt c m==1)==decide (i=0))&&(((kindAt c m==3)==decide (i+1=r.length))&&(decide (i=0)||hasLeg c prev m)))with
   |false=>
    rw[hv]at step
    exact EvI.done step
   |true=>
    rw[hv]at step
    rw[Bool.true_and]
    exact EvI.cont step (ih (i+1) m ht' (by omega) (fun _=>by simpa using ha))
 exact(loop r 0 0 rfl (Nat.zero_le _) (by omega)).ev
theorem Qhq(c:Course)(w:CourseOk c)(q:NumOk c)(d:Distance)(hd:d∈c.Distances)(hw:∀x∈d.Route,Part.wf x)(hs:szPs d.Route<=256):
  Ev (fun n=>F_cs n c d (Q0 legKey true c.Legs)) (routeS c d):=by
 have hlen:=Qal d.Route
 have hm:=Qnh q hd
 have hel:=QgB _ d.Route [] (Nat.le_refl _)
 unfold F_cs routeS
 refine Ev.bind (Qi1 _ _ d.Route (Nat.le_refl _) hs (by omega) hw (q.dist d hd).2.2) ?_
 generalize expS [] d.Route=r at hm hel⊢
 unfold routeR
 have e3:IntKind.i64.wrap ((r.length:Int)-1)=(r.length:Int)-1:=by
  have:r.length<=1048576:=by simp at hel;omega
  exact Qcf this
 rw[e3]
 have e0:(decide ((r.length:Int)-1<1)||decide (256<=(r.length:Int)-1))= !(decide (2<=r.length)&&decide (r.length<=256)):=by
  rw[Bool.eq_iff_iff];simp;omega
 refine Ev.bind (Ev.eq (Ql fun _=>Qa _) e0) ?_
 cases hq:(decide (2<=r.length)&&decide (r.length<=256))with
 |false=>exact Qa _
 |true=>
  simp only[Bool.and_eq_true,decide_eq_true_eq]at hq
  rw[Bool.true_and]
  refine YK (Ev.bind (QeO c r hq.1 hq.2 hm) ?_)
  cases rokS c r.length 0 0 r with
  |false=>exact Qa _
  |true=>
   simp only[cond_true,Bool.true_and]
   have hx:Ev (fun n:Nat=>((bif decide (0<=d.Extra)then(some (QG (cntM r) d.Extra 0)).bind fun v71=>(bif (v71==0)then some true else(idx c.Mats d.Extra).bind fun x73=>(bif (x73.Kind != 2)then some true else(some (QG (Q0 legKey true c.Legs) ({from_:=d.Extra,to_:=d.Extra:typing_ends}) false)).bind fun v75=>some (!v75)))else some false):Option Bool))
     (!(bif decide (0<=d.Extra)then !((r.count d.Extra:Int)==0)&&((kindAt c d.Extra==2)&&hasLeg c d.Extra d.Extra)else true)):=by
    rw[Qeo]
    cases h0:decide (0<=d.Extra)with
    |false=>exact Qa _
    |true=>
     obtain⟨x,e1,e2⟩:=Qh7 (c:=c) (m:=d.Extra) (by simpa using h0) (q.dist d hd).2.1
     simp only[cond_true,Option.bind_some,e1,Qgn,e2]
     refine Ev.eq (Ql fun _=>Ql fun _=>Qa _) ?_
     rw[bne]
     cases((r.count d.Extra:Int)==0)<;>cases(kindAt c d.Extra==2)<;>cases hasLeg c d.Extra d.Extra<;>rfl
   refine Ev.bind hx ?_
   cases(bif decide (0<=d.Extra)then !((r.count d.Extra:Int)==0)&&((kindAt c d.Extra==2)&&hasLeg c d.Extra d.Extra)else true)with
   |false=>exact Qa _
   |true=>
    rw[Bool.true_and]
    refine YK (Ev.bind ?_ (Qa _))
    unfold F_ej F_fa F_ft
    refine YW d.Cutoffs _ (fun n x=>F_bx n x (cntM r)) (by have:=w.cut d hd;omega) fun x _=>?_
    unfold F_bx
    rw[Qeo]
    exact Qa _
def lensC(c:Course):Nat:=c.Mats.length+c.Legs.length+c.Distances.length+c.Waves.length+c.Offences.length+c.Categories.length+c.Prizes.length
def fewD(d:Distance):Prop:=d.Cutoffs.length<=200/\szPs d.Route<=200/\hPs d.Route<=16
structure FewOk (c:Course):Prop where
 lens:lensC c<=200
 name:c.Name.length<=100
 dist:∀d∈c.Distances,fewD d
 ties:c.Ties.length<=200
def fitsS(c:Course):Bool:=
 !(decide (40<(c.Mats.length:Int))||(decide (512<(c.Legs.length:Int))||(decide (8<(c.Distances.length:Int))||(decide (32<(c.Waves.length:Int))||(decide (32<(c.Offences.length:Int))||(decide (32<(c.Categories.length:Int))||decide (32<(c.Prizes.length:Int))))))))
  &&c.Distances.all fun d=> !decide (64<(d.Cutoffs.length:Int))
theorem QlY(c:Course)(w:CourseOk c)(q:PartsOk c)(k:FewOk c):Ev (fun n=>F_ac n c) (fitsS c):=by
 unfold F_ac fitsS
 refine Ev.bind (Ql fun _=>Ql fun _=>Ql fun _=>Ql fun _=>Ql fun _=>Ql fun _=>Qa _) ?_
 cases(decide (40<(c.Mats.length:Int))||(decide (512<(c.Legs.length:Int))||(decide (8<(c.Distances.length:Int))||(decide (32<(c.Waves.length:Int))||(decide (32<(c.Offences.length:Int))||(decide (32<(c.Categories.length:Int))||decide (32<(c.Prizes.length:Int))))))))with
 |true=>exact Qa _
 |false=>
  rw[Bool.not_false,Bool.true_and]
  refine YK (Ev.bind (Qah c.Distances (fun d=> !decide (64<(d.Cutoffs.length:Int))) (Ctl.done false) (Ctl.cont ()) (by have:=w.dist;omega) (fun i x ha=>?_) ?_) ?_)
  ·obtain⟨f1,f2,f3⟩:=k.dist x ha.mem
   unfold F_em
   simp only[ha.lt,cond_true,ha.ix,Option.bind_some,ha.nx]
   refine Ev.bind (QkL _ x.Route 17 (Nat.le_refl _) (by omega) (Nat.le_refl _) (by omega) (q.wf x ha.mem)) ?_
   refine Ev.bind (Ql fun _=>Ql fun _=>Qa _) ?_
   simp only[Ys (show¬(16:Int)<(hPs x.Route:Int)by omega),Ys (show¬(256:Int)<(szPs x.Route:Int)by omega),Bool.or_false]
   cases decide (64<(x.Cutoffs.length:Int))<;>exact Qa _
  ·unfold F_em
   simp only[YR,cond_false]
   exact Qa _
  ·cases(c.Distances.all fun d=> !decide (64<(d.Cutoffs.length:Int)))<;>exact Qa _
def courseE(c:Course):Int:=
 bif fitsS c then bif namesS c then bif numbersS c then bif tiesE c.Ties==0 then bif c.Distances.all (routeS c)then 0 else 72 else tiesE c.Ties else 71 else 70 else 2
theorem Qfb(c:Course)(w:CourseOk c)(q:PartsOk c)(k:FewOk c)(hl:c.Ties.length<=1048576)(hw:∀x∈c.Ties,Step.wf x):Ev (fun n=>F_k n c) (courseE c):=by
 unfold F_k courseE
 refine Ev.bind (QlY c w q k) ?_
 cases fitsS c with
 |false=>exact Qa _
 |true=>
 refine YK (Ev.bind (QkI c w) ?_)
 cases namesS c with
 |false=>exact Qa _
 |true=>
 refine YK (Ev.bind (Qho c w q) ?_)
 cases hn:numbersS c with
 |false=>exact Qa _
 |true=>
 refine YK (Ev.bind (Ql0 c.Ties hl hw) ?_)
 rw[bne]
 cases(tiesE c.Ties==0)with
 |false=>exact Qa _
 |true=>
 have hs:Ev (fun n=>iter (F_hy n c) n ([],0)) (Q0 legKey true c.Legs):=by
  refine Qbn c.Legs legKey true (by have:=w.legs;omega) (fun i x m ha=>?_) (fun m=>?_)
  ·unfold F_hy
   simp only[ha.lt,cond_true,ha.ix,Option.bind_some,ha.nx]
   exact Qa _
  ·unfold F_hy
   simp only[YR,cond_false]
   exact Qa _
 refine YK (Ev.bind hs ?_)
 have ha:Ev (fun n=>F_ca n c.Distances c (Q0 legKey true c.Legs)) (c.Distances.all (routeS c)):=by
  unfold F_ca F_ei F_fy
  refine YW c.Distances _ (fun n x=>F_dg n x c (Q0 legKey true c.Legs)) (by have:=w.dist;omega) fun x hx=>?_
  unfold F_dg
  exact Ev.bind (Qhq c w (Qlo hn) x hx (q.wf x hx) (by have:=(k.dist x hx).2.1;omega)) (Qa _)
 refine Ev.bind ha ?_
 cases c.Distances.all (routeS c)<;>exact Qa _
theorem Ql7{α:Type}(l m:List α)(h:l.length+m.length<=4294967296):app l m=some (l++m):=by
 unfold app
 rw[Nat.ble_eq_true_of_le (by unfold QT;exact h)];rfl
theorem QjR(l:List Int)(h:l.length<=4294967296):sortI l=some (Qa0 ltI l):=by
 unfold sortI
 rw[Nat.ble_eq_true_of_le (by unfold QT;exact h)];rfl
theorem QbK{ι α:Type}{F:Nat->ι->Option α}{V:ι->α}:∀(L:List ι),(∀p∈L,Ev (fun n=>F n p) (V p))->∃N,∀n,N<=n->∀p∈L,F n p=some (V p)
 |[],_=>⟨0,fun _ _ p hp=>by cases hp⟩
 |x::L,h=>by
  obtain⟨N,hN⟩:=QbK L fun p hp=>h p (by simp[hp])
  obtain⟨M,hM⟩:=h x (by simp)
  refine⟨N+M,fun n hn p hp=>?_⟩
  rcases List.mem_cons.1 hp with rfl|hp
  ·exact hM n (by omega)
  ·exact hN n (by omega) p hp
theorem Ev.anyP{E R:Type}[DecidableEq R]{k:Nat->List E->Option R}{l:List E}{r:R}(h:∀p,p.Perm l->Ev (fun n=>k n p) r):Ev (fun n=>Go.Sw.anyP (k n) l) r:=by
 obtain⟨N,hN⟩:=QbK (F:=fun n p=>k n p) (V:=fun _=>r) (QbC l) fun p hp=>h p (Qb3 l p hp)
 exact⟨N,fun n hn=>Qmb fun p hp=>hN n hn p (QcU l p hp)⟩
theorem Qi4:∀(k:Nat) (l:List Part),k<=17->szPs l<=256->(∀x∈l,Part.wf x)->∃s:Nat,s<=szPs l/\Ev (fun n=>F_b n l (k:Int)) (((min (hPs l) k:Nat):Int),(s:Int)):=by
 intro k
 induction k using Nat.strongRecOn with
 |_ k ih=>
 intro l hk17 hs256 hw
 have hlen:=Qal l
 have loop:∀(r:List Part) (i a b:Nat),l.drop i=r->i<=l.length->a<=17->b+(szPs r-r.length)<=256->∃s:Nat,s<=b+(szPs r-r.length)/\EvI (fun n=>F_z n l (k:Int) (F_b n)) ((a:Int),(b:Int),(i:Int)) (((max a (min (hPs r) k):Nat):Int),(s:Int)):=by
  intro r
  induction r with
  |nil=>
   intro i a b hr hi _ _
   refine⟨b,by omega,EvI.done ?_⟩
   unfold F_z
   simp only[YB hr hi,cond_false,Option.bind_some]
   refine(Qa _).eq ?_
   simp[hPs]
  |cons p r ihr=>
   intro i a b hr hi ha0 hb0
   obtain⟨ha,hr'⟩:=Q3 (by omega) hr
   obtain⟨w1,w2⟩:=YS (hw p ha.mem)
   have hs:=QaV ha.mem
   rw[Qac]at hs
   have hr2:=Qal r
   rw[szPs,Qac,List.length_cons]at hb0⊢
   have step:∃t:Nat,t<=szPs p.Parts/\Ev (fun n=>F_z n l (k:Int) (F_b n) ((a:Int),(b:Int),(i:Int))) (.cont (((max a (min (hP p) k):Nat):Int),((b+t:Nat):Int),((i+1:Nat):Int))):=by
    unfold F_z
    simp only[ha.lt,cond_true,ha.ix,Option.bind_some,ha.nx,Qcr]
    rw[QmA]
    cases hp:p.Parts.isEmpty with
    |true=>
     refine⟨0,Nat.zero_le _,?_⟩
     simp only[cond_true,Option.bind_some,Nat.zero_min,Nat.max_zero,Nat.add_zero]
     exact Qa _
    |false=>
     simp only[cond_false]
     by_cases hk0:k=0
     ·subst hk0
      refine⟨0,Nat.zero_le _,?_⟩
      simp only[Nat.min_zero,Nat.max_zero,Nat.add_zero]
      exact Qa _
     ·obtain⟨t,ht,p1⟩:=ih (k-1) (by omega) p.Parts (by omega) (by omega) w2
      refine⟨t,ht,?_⟩
      have e1:IntKind.i64.wrap ((k:Int)-1)=((k-1:Nat):Int):=by rw[Ye (by omega) (by omega)];omega
      have e2:((k:Int)==0)=false:=beq_false_of_ne (by omega)
      rw[e2,Ys (show¬(256:Int)<(b:Int)by omega),e1]
      simp only[cond_false,Option.bind_some]
      refine Ev.bind (Ev.bind p1 (Qa _)) ((Qa _).eq ?_)
      have e3:IntKind.i64.wrap (((min (hPs p.Parts) (k-1):Nat):Int)+1)=((min (hPs p.Parts) (k-1)+1:Nat):Int):=QaB (by omega)
      have e4:IntKind.i64.wrap ((b:Int)+(t:Int))=((b+t:Nat):Int):=by rw[Ye (by omega) (by omega)];omega
      simp only[e3,e4]
      congr 2
      split<;>omega
   obtain⟨t,ht,p1⟩:=step
   obtain⟨s,hs',p2⟩:=ihr (i+1) (max a (min (hP p) k)) (b+t) hr' (by have:=ha.lt';omega) (by omega) (by omega)
   refine⟨s,by omega,(EvI.cont p1 p2).eq ?_⟩
   rw[hPs]
   congr 1
   omega
 obtain⟨s,hs,p⟩:=loop l 0 0 l.length rfl (Nat.zero_le _) (by omega) (by omega)
 refine⟨s,by omega,YP ?_⟩
 show Ev (fun n=>B_b (F_b n) n l (k:Int)) _
 unfold B_b
 refine Ev.bind p.ev ((Qa _).eq ?_)
 rw[Nat.zero_max]
structure FewL (c:Course):Prop where
 lens:lensC c<=200
 name:c.Name.length<=100
 dist:∀d∈c.Distances,d.Cutoffs.length<=12/\szPs d.Route<=24
 ties:c.Ties.length<=200
def fitsG(c:Course):Bool:=
 !(decide (40<(c.Mats.length:Int))||(decide (512<(c.Legs.length:Int))||(decide (8<(c.Distances.length:Int))||(decide (32<(c.Waves.length:Int))||(decide (32<(c.Offences.length:Int))||(decide (32<(c.Categories.length:Int))||decide (32<(c.Prizes.length:Int))))))))
  &&c.Distances.all fun d=> !(decide (64<(d.Cutoffs.length:Int))||decide (16<hPs d.Route))
theorem QgH(c:Course)(w:CourseOk c)(q:PartsOk c)(k:FewL c):Ev (fun n=>F_ac n c) (fitsG c):=by
 unfold F_ac fitsG
 refine Ev.bind (Ql fun _=>Ql fun _=>Ql fun _=>Ql fun _=>Ql fun _=>Ql fun _=>Qa _) ?_
 cases(decide (40<(c.Mats.length:Int))||(decide (512<(c.Legs.length:Int))||(decide (8<(c.Distances.length:Int))||(decide (32<(c.Waves.length:Int))||(decide (32<(c.Offences.length:Int))||(decide (32<(c.Categories.length:Int))||decide (32<(c.Prizes.length:Int))))))))with
 |true=>exact Qa _
 |false=>
  rw[Bool.not_false,Bool.true_and]
  refine YK (Ev.bind (Qah c.Distances (fun d=> !(decide (64<(d.Cutoffs.length:Int))||decide (16<hPs d.Route))) (Ctl.done false) (Ctl.cont ()) (by have:=w.dist;omega) (fun i x ha=>?_) ?_) ?_)
  ·obtain⟨f1,f2⟩:=k.dist x ha.mem
   unfold F_em
   simp only[ha.lt,cond_true,ha.ix,Option.bind_some,ha.nx]
   obtain⟨s,hs,p⟩:=Qi4 17 x.Route (Nat.le_refl _) (by omega) (q.wf x ha.mem)
   refine Ev.bind p ?_
   refine Ev.bind (Ql fun _=>Ql fun _=>Qa _) ?_
   simp only[Ys (show¬(256:Int)<(s:Int)by omega),Bool.or_false]
   have e:decide ((16:Int)<((min (hPs x.Route) 17:Nat):Int))=decide (16<hPs x.Route):=by
    rw[decide_eq_decide];omega
   rw[e]
   cases(decide (64<(x.Cutoffs.length:Int))||decide (16<hPs x.Route))<;>exact Qa _
  ·unfold F_em
   simp only[YR,cond_false]
   exact Qa _
  ·cases c.Distances.all (fun d=> !(decide (64<(d.Cutoffs.length:Int))||decide (16<hPs d.Route)))<;>exact Qa _
theorem QfO(c:Course)(w:CourseOk c)(q:PartsOk c)(k:FewL c)(hl:c.Ties.length<=1048576)(hw:∀x∈c.Ties,Step.wf x):∃e,Ev (fun n=>F_k n c) e:=by
 by_cases hh:∀d∈c.Distances,hPs d.Route<=16
 ·exact⟨_,Qfb c w q ⟨k.lens,k.name,fun d hd=>⟨by have:=(k.dist d hd).1;omega,by have:=(k.dist d hd).2;omega,hh d hd⟩,k.ties⟩ hl hw⟩
 ·refine⟨2,?_⟩
  unfold F_k
  refine Ev.bind (QgH c w q k) ?_
  have:fitsG c=false:=by
   unfold fitsG
   rw[Bool.and_eq_false_iff]
   right
   rw[List.all_eq_false]
   have:=Classical.not_forall.1 hh
   obtain⟨d,hd⟩:=this
   have hd2:d∈c.Distances/\ ¬hPs d.Route<=16:=by
    refine Classical.byContradiction fun z=>hd fun hm=>Classical.byContradiction fun y=>z ⟨hm,y⟩
   refine⟨d,hd2.1,?_⟩
   have:decide (16<hPs d.Route)=true:=decide_eq_true (by omega)
   rw[this];simp
  rw[this];exact Qa _
theorem Qhc:∀(k:Nat) (l:List Part),k<=21->l.length<=1048576->(∀x∈l,Part.wf x)->∃v:Nat,v<=1048576+500*(k+1)/\(v<500->szPs l<=v)/\Ev (fun n=>F_i n l ((21-k:Nat):Int)) (v:Int):=by
 intro k
 induction k with
 |zero=>
  intro l _ hl hw
  refine⟨500,by omega,by omega,YP ?_⟩
  show Ev (fun n=>B_i (F_i n) n l ((21-0:Nat):Int)) _
  unfold B_i
  exact Qa _
 |succ k ih=>
  intro l hk hl hw
  have loop:∀(r:List Part) (i a:Nat),l.drop i=r->i<=l.length->a<=1048576+500*(k+1+1)->∃v:Nat,v<=1048576+500*(k+1+1)/\a<=v/\(v<500->a+(szPs r-r.length)<=v)/\EvI (fun n=>F_eu n l ((21-(k+1):Nat):Int) (F_i n)) ((a:Int),(i:Int)) (v:Int):=by
   intro r
   induction r with
   |nil=>
    intro i a hr hi hb
    refine⟨a,hb,Nat.le_refl _,fun _=>by simp[szPs],EvI.done ?_⟩
    unfold F_eu
    simp only[YB hr hi,cond_false,Option.bind_some]
    exact Qa _
   |cons p r ihr=>
    intro i a hr hi hb
    obtain⟨ha,hr'⟩:=Q3 (by omega) hr
    obtain⟨w1,w2⟩:=YS (hw p ha.mem)
    by_cases h5:a<500
    ·obtain⟨u,u1,u2,u3⟩:=ih p.Parts (by omega) w1 w2
     have e1:IntKind.i64.wrap (((21-(k+1):Nat):Int)+1)=((21-k:Nat):Int):=by rw[Ye (by omega) (by omega)];omega
     have e2:IntKind.i64.wrap ((a:Int)+(u:Int))=((a+u:Nat):Int):=by rw[Ye (by omega) (by omega)];omega
     obtain⟨v,v1,v2,v3,v4⟩:=ihr (i+1) (a+u) hr' (by have:=ha.lt';omega) (by omega)
     refine⟨v,v1,by omega,fun hv=>?_,EvI.cont ?_ v4⟩
     ·have:=v3 hv
      have:=u2 (by omega)
      have:=Qal r
      rw[szPs,Qac,List.length_cons]
      omega
     ·unfold F_eu
      simp only[ha.lt,cond_true,ha.ix,Option.bind_some,ha.nx,YC (show(a:Int)<500 by omega),e1]
      refine Ev.bind u3 ?_
      rw[e2];exact Qa _
    ·refine⟨a,hb,Nat.le_refl _,fun hv=>absurd hv h5,EvI.done ?_⟩
     unfold F_eu
     simp only[ha.lt,cond_true,Option.bind_some,Ys (show¬(a:Int)<500 by omega),cond_false]
     exact Qa _
  obtain⟨v,v1,v2,v3,v4⟩:=loop l 0 l.length rfl (Nat.zero_le _) (Nat.le_trans hl (Nat.le_add_right _ _))
  have:=Qal l
  refine⟨v,v1,fun hv=>by have:=v3 hv;omega,YP ?_⟩
  show Ev (fun n=>B_i (F_i n) n l ((21-(k+1):Nat):Int)) _
  unfold B_i
  rw[Ys (show¬(20:Int)<((21-(k+1):Nat):Int)by omega)]
  exact YK (Ev.bind v4.ev (Qa _))
theorem QgS:∀(k:Nat) (l:List Cond),k<=21->l.length<=1048576->(∀x∈l,Cond.wf x)->∃v:Nat,v<=1048576+500*(k+1)/\Ev (fun n=>F_g n l ((21-k:Nat):Int)) (v:Int):=by
 intro k
 induction k with
 |zero=>
  intro l _ hl hw
  refine⟨500,by omega,YP ?_⟩
  show Ev (fun n=>B_g (F_g n) n l ((21-0:Nat):Int)) _
  unfold B_g
  exact Qa _
 |succ k ih=>
  intro l hk hl hw
  have loop:∀(r:List Cond) (i a:Nat),l.drop i=r->i<=l.length->a<=1048576+500*(k+1+1)->∃v:Nat,v<=1048576+500*(k+1+1)/\EvI (fun n=>F_fz n l ((21-(k+1):Nat):Int) (F_g n)) ((a:Int),(i:Int)) (v:Int):=by
   intro r
   induction r with
   |nil=>
    intro i a hr hi hb
    refine⟨a,hb,EvI.done ?_⟩
    unfold F_fz
    simp only[YB hr hi,cond_false,Option.bind_some]
    exact Qa _
   |cons p r ihr=>
    intro i a hr hi hb
    obtain⟨ha,hr'⟩:=Q3 (by omega) hr
    have hwp:=Qak (hw p ha.mem)
    by_cases h5:a<500
    ·obtain⟨u,u1,u3⟩:=ih p.Parts (by omega) hwp.1 hwp.2
     have e1:IntKind.i64.wrap (((21-(k+1):Nat):Int)+1)=((21-k:Nat):Int):=by rw[Ye (by omega) (by omega)];omega
     have e2:IntKind.i64.wrap ((a:Int)+(u:Int))=((a+u:Nat):Int):=by rw[Ye (by omega) (by omega)];omega
     obtain⟨v,v1,v4⟩:=ihr (i+1) (a+u) hr' (by have:=ha.lt';omega) (by omega)
     refine⟨v,v1,EvI.cont ?_ v4⟩
     unfold F_fz
     simp only[ha.lt,cond_true,ha.ix,Option.bind_some,ha.nx,YC (show(a:Int)<500 by omega),e1]
     refine Ev.bind u3 ?_
     rw[e2];exact Qa _
    ·refine⟨a,hb,EvI.done ?_⟩
     unfold F_fz
     simp only[ha.lt,cond_true,Option.bind_some,Ys (show¬(a:Int)<500 by omega),cond_false]
     exact Qa _
  obtain⟨v,v1,v4⟩:=loop l 0 l.length rfl (Nat.zero_le _) (Nat.le_trans hl (Nat.le_add_right _ _))
  refine⟨v,v1,YP ?_⟩
  show Ev (fun n=>B_g (F_g n) n l ((21-(k+1):Nat):Int)) _
  unfold B_g
  rw[Ys (show¬(20:Int)<((21-(k+1):Nat):Int)by omega)]
  exact YK (Ev.bind v4.ev (Qa _))
def Cs:Nat->Nat
 |0=>500
 |k+1=>4194304+2*Cs k
theorem QmF:∀k,k<22->Cs k<=1125899906842624:=by decide
theorem Qf5:∀(k:Nat) (l:List Step),k<=21->l.length<=1048576->(∀x∈l,Step.wf x)->∃v:Nat,v<=Cs k/\(v<500->l.length<=v)/\Ev (fun n=>F_j n l ((21-k:Nat):Int)) (v:Int):=by
 intro k
 induction k with
 |zero=>
  intro l _ hl hw
  refine⟨500,Nat.le_refl _,by omega,YP ?_⟩
  show Ev (fun n=>B_j (F_j n) n l ((21-0:Nat):Int)) _
  unfold B_j
  exact Qa _
 |succ k ih=>
  intro l hk hl hw
  have hc1:=QmF k (by omega)
  have hc2:=QmF (k+1) (by omega)
  have hce:Cs (k+1)=4194304+2*Cs k:=rfl
  have loop:∀(r:List Step) (i a:Nat),l.drop i=r->i<=l.length->a<=Cs (k+1)->∃v:Nat,v<=Cs (k+1)/\a<=v/\EvI (fun n=>F_fw n l ((21-(k+1):Nat):Int) (F_j n)) ((a:Int),(i:Int)) (v:Int):=by
   intro r
   induction r with
   |nil=>
    intro i a hr hi hb
    refine⟨a,hb,Nat.le_refl _,EvI.done ?_⟩
    unfold F_fw
    simp only[YB hr hi,cond_false,Option.bind_some]
    exact Qa _
   |cons p r ihr=>
    intro i a hr hi hb
    obtain⟨ha,hr'⟩:=Q3 (by omega) hr
    obtain⟨wc,wt,we⟩:=Qaj (hw p ha.mem)
    by_cases h5:a<500
    ·obtain⟨u,u1,u3⟩:=QgS 21 [p.Cond] (Nat.le_refl _) (by simp) (by simpa using wc)
     obtain⟨x,x1,_,x3⟩:=ih p.Then (by omega) wt.1 wt.2
     obtain⟨y,y1,_,y3⟩:=ih p.Else (by omega) we.1 we.2
     have e1:IntKind.i64.wrap (((21-(k+1):Nat):Int)+1)=((21-k:Nat):Int):=by rw[Ye (by omega) (by omega)];omega
     have e2:IntKind.i64.wrap ((a:Int)+(u:Int))=((a+u:Nat):Int):=by rw[Ye (by omega) (by omega)];omega
     have e3:IntKind.i64.wrap (((a+u:Nat):Int)+(x:Int))=((a+u+x:Nat):Int):=by rw[Ye (by omega) (by omega)];omega
     have e4:IntKind.i64.wrap (((a+u+x:Nat):Int)+(y:Int))=((a+u+x+y:Nat):Int):=by rw[Ye (by omega) (by omega)];omega
     obtain⟨v,v1,v2,v4⟩:=ihr (i+1) (a+u+x+y) hr' (by have:=ha.lt';omega) (by omega)
     refine⟨v,v1,by omega,EvI.cont ?_ v4⟩
     unfold F_fw
     simp only[ha.lt,cond_true,ha.ix,Option.bind_some,ha.nx,YC (show(a:Int)<500 by omega),e1]
     refine Ev.bind u3 (Ev.bind x3 (Ev.bind y3 ?_))
     rw[e2,e3,e4];exact Qa _
    ·refine⟨a,hb,Nat.le_refl _,EvI.done ?_⟩
     unfold F_fw
     simp only[ha.lt,cond_true,Option.bind_some,Ys (show¬(a:Int)<500 by omega),cond_false]
     exact Qa _
  obtain⟨v,v1,v2,v4⟩:=loop l 0 l.length rfl (Nat.zero_le _) (by omega)
  refine⟨v,v1,fun _=>v2,YP ?_⟩
  show Ev (fun n=>B_j (F_j n) n l ((21-(k+1):Nat):Int)) _
  unfold B_j
  rw[Ys (show¬(20:Int)<((21-(k+1):Nat):Int)by omega)]
  exact YK (Ev.bind v4.ev (Qa _))
theorem QiV(c:Course)(w:CourseOk c)(q:PartsOk c)(hl:c.Ties.length<=1048576)(hw:∀x∈c.Ties,Step.wf x):∃b,Ev (fun n=>F_y n c) b/\(b=true->FewL c):=by
 have hd:=w.dist
 have hm:=w.mats
 have loop:∀(r:List Distance) (i:Nat),c.Distances.drop i=r->i<=c.Distances.length->∃res:Ctl Unit Bool,EvI (fun n=>F_fp n c) (i:Int) res/\(res=.done false\/(res=.cont ()/\ ∀d∈r,d.Cutoffs.length<=12/\szPs d.Route<=24)):=by
  intro r
  induction r with
  |nil=>
   intro i hr hi
   refine⟨.cont (),EvI.done ?_,.inr ⟨rfl,fun d h=>by cases h⟩⟩
   unfold F_fp
   simp only[YB hr hi,cond_false]
   exact Qa _
  |cons d r ihr=>
   intro i hr hi
   obtain⟨ha,hr'⟩:=Q3 (by omega) hr
   obtain⟨v,v1,v2,v3⟩:=Qhc 21 d.Route (Nat.le_refl _) (q.len d ha.mem) (q.wf d ha.mem)
   have step:Ev (fun n=>F_fp n c (i:Int)) (bif (decide ((24:Int)<(v:Int))||(decide (12<(d.Cutoffs.length:Int))||decide (60<(d.Name.length:Int))))then .done (.done false)else .cont ((i+1:Nat):Int)):=by
    unfold F_fp
    simp only[ha.lt,cond_true,ha.ix,Option.bind_some,ha.nx]
    refine Ev.bind (v:=decide ((24:Int)<(v:Int))||(decide (12<(d.Cutoffs.length:Int))||decide (60<(d.Name.length:Int)))) (Ev.bind v3 (Ql fun _=>Ql fun _=>Qa _)) ?_
    cases(decide ((24:Int)<(v:Int))||(decide (12<(d.Cutoffs.length:Int))||decide (60<(d.Name.length:Int))))<;>exact Qa _
   cases hb:(decide ((24:Int)<(v:Int))||(decide (12<(d.Cutoffs.length:Int))||decide (60<(d.Name.length:Int))))with
   |true=>
    rw[hb]at step
    exact⟨.done false,EvI.done step,.inl rfl⟩
   |false=>
    rw[hb]at step
    obtain⟨res,p1,p2⟩:=ihr (i+1) hr' (by have:=ha.lt';omega)
    refine⟨res,EvI.cont step p1,?_⟩
    rcases p2 with p2|⟨p2,p3⟩
    ·exact .inl p2
    ·refine .inr ⟨p2,fun x hx=>?_⟩
     rcases List.mem_cons.1 hx with rfl|hx
     ·simp only[Bool.or_eq_false_iff,decide_eq_false_iff_not]at hb
      have:=v2 (by omega)
      exact⟨by omega,by omega⟩
     ·exact p3 x hx
 obtain⟨res,p1,p2⟩:=loop c.Distances 0 rfl (Nat.zero_le _)
 rcases p2 with rfl|⟨rfl,p3⟩
 ·refine⟨false,?_,fun h=>by cases h⟩
  unfold F_y
  exact Ev.bind p1.ev (Qa _)
 ·have l2:∃res:Ctl Unit Bool,Ev (fun n=>iter (F_hd n c) n (0:Int)) res/\(res=.done false\/res=.cont ()):=by
   refine⟨_,Qah c.Mats (fun m=> !decide (60<(m.Name.length:Int))) (Ctl.done false) (Ctl.cont ()) (by omega) (fun i x ha=>?_) ?_,?_⟩
   ·unfold F_hd
    simp only[ha.lt,cond_true,ha.ix,Option.bind_some,ha.nx]
    cases decide (60<(x.Name.length:Int))<;>exact Qa _
   ·unfold F_hd
    simp only[YR,cond_false]
    exact Qa _
   ·cases c.Mats.all (fun m=> !decide (60<(m.Name.length:Int)))with
    |true=>exact .inr rfl
    |false=>exact .inl rfl
  obtain⟨res2,q1,q2⟩:=l2
  rcases q2 with rfl|rfl
  ·refine⟨false,?_,fun h=>by cases h⟩
   unfold F_y
   exact Ev.bind p1.ev (Ev.bind q1 (Qa _))
  ·obtain⟨v,v1,v2,v3⟩:=Qf5 21 c.Ties (Nat.le_refl _) hl hw
   cases hb:(decide (12<(c.Mats.length:Int))||(decide (30<(c.Legs.length:Int))||(decide (4<(c.Distances.length:Int))||(decide (6<(c.Waves.length:Int))||(decide (6<(c.Offences.length:Int))||(decide (6<(c.Categories.length:Int))||(decide (6<(c.Prizes.length:Int))||decide (60<(c.Name.length:Int)))))))))with
   |true=>
    refine⟨false,?_,fun h=>by cases h⟩
    unfold F_y
    refine Ev.bind p1.ev (Ev.bind q1 (Ev.bind (v:=true) (Ev.eq (Ql fun _=>Ql fun _=>Ql fun _=>Ql fun _=>Ql fun _=>Ql fun _=>Ql fun _=>Qa _) hb) (Qa _)))
   |false=>
    refine⟨decide ((v:Int)<=100),?_,fun h=>?_⟩
    ·unfold F_y
     refine Ev.bind p1.ev (Ev.bind q1 (Ev.bind (v:=false) (Ev.eq (Ql fun _=>Ql fun _=>Ql fun _=>Ql fun _=>Ql fun _=>Ql fun _=>Ql fun _=>Qa _) hb) (Ev.bind v3 (Qa _))))
    ·have h:=of_decide_eq_true h
     have:=v2 (by omega)
     simp only[Bool.or_eq_false_iff,decide_eq_false_iff_not]at hb
     obtain⟨b1,b2,b3,b4,b5,b6,b7,b8⟩:=hb
     exact⟨by unfold lensC;omega,by omega,p3,by omega⟩
set_option maxRecDepth 4000
def cmpI(a b:Int):Int:=bif decide (a<b)then-1 else bif decide (b<a)then 1 else 0
theorem QlZ(n:Nat)(a b:Int):F_e n a b=some (cmpI a b):=by
 unfold F_e F_bd cmpI
 simp only[Option.bind_some,bne_self_eq_false,cond_false]
 cases decide (a<b)with
 |true=>rfl
 |false=>cases decide (b<a)<;>rfl
def orL:List Int->Int
 |[]=>0
 |x::r=>bif x != 0 then x else orL r
theorem ev_or(l:List Int)(hl:l.length<=1000):Ev (fun n=>F_v n l) (orL l):=by
 unfold F_v
 have loop:∀(r:List Int) (i:Nat),l.drop i=r->i<=l.length->EvI (fun n=>F_fs n l) (i:Int) (bif orL r==0 then Ctl.cont ()else Ctl.done (orL r)):=by
  intro r
  induction r with
  |nil=>
   intro i hr hi
   refine EvI.done ?_
   unfold F_fs
   simp only[YB hr hi,cond_false]
   exact Qa _
  |cons x r ih=>
   intro i hr hi
   obtain⟨ha,hr'⟩:=Q3 (by omega) hr
   have hlt:=ha.lt'
   unfold orL
   cases q:(x != 0)with
   |true=>
    have e:(x==0)=false:=by simpa[bne]using q
    simp only[cond_true,e,cond_false]
    refine EvI.done ?_
    unfold F_fs
    simp only[ha.lt,cond_true,ha.ix,Option.bind_some,q]
    exact Qa _
   |false=>
    simp only[cond_false]
    refine EvI.cont ?_ (ih (i+1) hr' (by omega))
    unfold F_fs
    simp only[ha.lt,cond_true,ha.ix,Option.bind_some,q,cond_false,ha.nx]
    exact Qa _
 refine Ev.bind (loop l 0 rfl (Nat.zero_le _)).ev ?_
 cases h:(orL l==0)with
 |true=>
  have e:orL l=0:=by simpa using h
  rw[e]
  exact Qa _
 |false=>exact Qa _
theorem Qkm{β:Type}(m:List (Int×β))(k:Int):QeM m k=(Yn m k).isSome:=by
 unfold QeM Yn
 rw[Option.isSome_map]
 induction m with
 |nil=>rfl
 |cons p m ih=>
  rw[List.any_cons,List.find?_cons,ih]
  cases decide (p.1=k)<;>rfl
theorem Qcp{β:Type}(m:List (Int×β))(k:Int):k∈m.map Prod.fst↔ ∃v,Yn m k=some v:=by
 have h:=Qkm m k
 rw[<- Option.isSome_iff_exists, <- h]
 unfold QeM
 simp only[List.any_eq_true,decide_eq_true_eq,List.mem_map]
theorem Qgl{β:Type}(m:List (Int×β))(k:Int)(v:β):(QQ m k v).length<=m.length+1:=by
 have:=congrArg List.length (QcX m k v)
 rw[List.length_map]at this
 rw[this]
 split<;>simp
theorem QdY{β:Type}{m:List (Int×β)}(k:Int)(v:β)(h:(m.map Prod.fst).Nodup):((QQ m k v).map Prod.fst).Nodup:=by
 have e:=QcX m k v
 have e':(QQ m k v).map Prod.fst=if k∈m.map Prod.fst then m.map Prod.fst else m.map Prod.fst++[k]:=e
 rw[e']
 split
 ·exact h
 ·rename_i hk
  rw[List.nodup_append]
  refine⟨h,by simp,fun a ha b hb=>?_⟩
  rw[List.mem_singleton]at hb
  rintro rfl
  exact hk (hb▸ha)
theorem QiS{l m:List Int}(h:l.Perm m):Qa0 ltI l=Qa0 ltI m:=
 Qbc ((Q2 ltI l).trans (h.trans (Q2 ltI m).symm)) (fun x _ y _ a b=>by simp[ltI]at*;omega) (Y9 (QfD l)) (Y9 (QfD m))
theorem QlS{n:Nat}(h:n<=1048576):Nat.ble n QT=true:=Nat.ble_eq_true_of_le (Nat.le_trans h (by decide))
set_option maxRecDepth 4000
section
variable {α:Type}{c d:α->α->Int}
end
theorem Qg8{c:Course}(h:Course.wf c):CourseOk c:=by
 obtain⟨h1,⟨h2,k2⟩,⟨h3,k3⟩,⟨h4,k4⟩,⟨h5,k5⟩,⟨h6,k6⟩,⟨h7,k7⟩,⟨h8,k8⟩,_⟩:=h
 exact⟨h1,h2,fun x hx=>(k2 x hx).1,h3,h4,fun x hx=>(k4 x hx).1,fun x hx=>(k4 x hx).2.2.2.1.1,h5,fun x hx=>(k5 x hx).1,h6,fun x hx=>(k6 x hx).1,h7,fun x hx=>(k7 x hx).1,h8⟩
theorem QhK{c:Course}(h:Course.wf c):PartsOk c:=by
 obtain⟨_,_,_,⟨h4,k4⟩,_⟩:=h
 exact⟨fun d hd=>(k4 d hd).2.1.1,fun d hd=>(k4 d hd).2.1.2⟩
theorem QlE{c:Course}(h:Course.wf c):c.Ties.length<=1048576/\ ∀x∈c.Ties,Step.wf x:=by
 obtain⟨_,_,_,_,_,_,_,_,h9,_⟩:=h
 exact h9
def EvL{S T B:Type}(step:Nat->S->Option (List T×Ctl S B))(s:S)(r:List T×B):Prop:=∃N,∀n k,N<=n->N<=k->Qbq (step n) k s=some r
theorem EvL.done{S T B:Type}{step:Nat->S->Option (List T×Ctl S B)}{s:S}{z:List T}{b:B}(h:Ev (fun n=>step n s) (z,.done b)):EvL step s (z,b):=by
 obtain⟨N,h⟩:=h
 refine⟨N+1,fun n k hn hk=>?_⟩
 obtain⟨j,rfl⟩:∃j,k=j+1:=⟨k-1,by omega⟩
 simp only[Qbq,h n (by omega),Option.bind_some]
theorem EvL.cont{S T B:Type}{step:Nat->S->Option (List T×Ctl S B)}{s s':S}{z ys:List T}{b:B}(h:Ev (fun n=>step n s) (z,.cont s'))(q:EvL step s' (ys,b)):EvL step s (z++ys,b):=by
 obtain⟨N,h⟩:=h
 obtain⟨M,q⟩:=q
 refine⟨max N M+1,fun n k hn hk=>?_⟩
 obtain⟨j,rfl⟩:∃j,k=j+1:=⟨k-1,by omega⟩
 simp only[Qbq,h n (by omega),Option.bind_some,q n j (by omega) (by omega)]
theorem EvL.ev{S T B:Type}{step:Nat->S->Option (List T×Ctl S B)}{s:S}{r:List T×B}(h:EvL step s r):Ev (fun n=>Qbq (step n) n s) r:=by
 obtain⟨N,h⟩:=h
 exact⟨N,fun n hn=>h n n hn hn⟩
theorem EvL.eq{S T B:Type}{step:Nat->S->Option (List T×Ctl S B)}{s:S}{r r':List T×B}(h:EvL step s r)(e:r=r'):EvL step s r':=e▸h
theorem QaA(p:Nat->Bool):∀k,(∀i,i<k->p i=true)\/ ∃j,j<k/\p j=false/\ ∀i,i<j->p i=true
 |0=>.inl fun i h=>absurd h (Nat.not_lt_zero _)
 |k+1=>by
  rcases QaA p k with h|⟨j,h1,h2,h3⟩
  ·cases q:p k with
   |true=>exact .inl fun i hi=>(Nat.lt_succ_iff_lt_or_eq.1 hi).elim (h i) fun e=>e▸q
   |false=>exact .inr ⟨k,Nat.lt_succ_self _,q,h⟩
  ·exact .inr ⟨j,by omega,h2,h3⟩
theorem Qnz{p:Nat->Bool}{k:Nat}:(List.range k).all p=true↔ ∀i,i<k->p i=true:=by simp[List.all_eq_true]
theorem QbS{B:Type}{step:Nat->Int->Option (Ctl Int B)}(k:Nat)(p:Nat->Bool)(bx b:B)
  (hc:∀i,i<k->Ev (fun n=>step n (i:Int)) (bif p i then .cont ((i+1:Nat):Int)else .done bx))(hd:Ev (fun n=>step n (k:Int)) (.done b)):
  Ev (fun n=>Go.Sw.iter (step n) n 0) (bif (List.range k).all p then b else bx):=by
 rcases QaA p k with h|⟨j,h1,h2,h3⟩
 ·rw[Qnz.2 h]
  exact Ev.iter (fun i=>(i:Int)) k rfl (fun i hi=>(hc i hi).eq (by rw[h i hi];rfl)) hd
 ·have:(List.range k).all p=false:=by
   rw[Bool.eq_false_iff]
   intro q
   rw[Qnz.1 q j h1]at h2
   cases h2
  rw[this]
  exact Ev.iter (fun i=>(i:Int)) j rfl (fun i hi=>(hc i (by omega)).eq (by rw[h3 i hi];rfl)) ((hc j h1).eq (by rw[h2];rfl))
theorem atN{α:Type}{l:List α}{i:Nat}(hl:l.length<=1048576)(hi:i<l.length):At l i l[i]:=Jc (by omega) (List.getElem?_eq_getElem hi)
theorem Y6{n:Nat}(h:n<=1048576):IntKind.i64.wrap ((n:Int)+1)=((n+1:Nat):Int):=QaB (by omega)
def segLt(x y:Segment):Bool:=decide (x.Mat<y.Mat)||((x.Mat==y.Mat)&&decide (x.Epoch<y.Epoch))
def cmpSeg(x y:Segment):Int:=orL [cmpI x.Mat y.Mat,cmpI x.Epoch y.Epoch]
theorem Qjb(x y:Segment):decide (0<=cmpSeg x y)= !segLt x y:=by
 unfold cmpSeg segLt orL orL orL cmpI
 by_cases h1:x.Mat<y.Mat
 ·simp[h1]
 ·by_cases h2:y.Mat<x.Mat
  ·have:¬x.Mat=y.Mat:=by omega
   simp[h1,h2,this]
  ·have:x.Mat=y.Mat:=by omega
   by_cases h3:x.Epoch<y.Epoch
   ·simp[h1,h2,this,h3]
   ·by_cases h4:y.Epoch<x.Epoch
    ·simp[h1,h2,this,h3,h4]
    ·simp[h1,h2,this,h3,h4]
theorem QfN(a b:Int):Ev (fun n=>F_e n a b) (cmpI a b):=QeJ (Qa _) fun n=>QlZ n a b
theorem QgD(x y:Segment):Ev (fun n=>F_at n x y) (cmpSeg x y):=by
 unfold F_at F_gc
 exact Ev.bind (Ev.bind (QfN _ _) (Ev.bind (QfN _ _) (Ev.bind (ev_or _ (by simp)) (Qa _)))) (Qa _)
def timeB(x:Int):Bool:=inR (-1099511627776) 1099511627776 x
theorem QiY(x:Int):Ev (fun n=>F_aw n x) (timeB x):=by
 unfold F_aw timeB inR
 exact Ev.bind (Ev.and fun _=>Qa _) (Qa _)
def prevSeg(c:Clocks)(i:Nat)(x:Segment):Bool:=decide (0<(i:Int))&& !(match c.Segments[i-1]? with|some y=>segLt y x|none=>true)
def segBad(c:Clocks)(i:Nat)(x:Segment):Bool:=decide (x.Mat<0)||(decide (40<=x.Mat)||(decide (x.Epoch<0)||(decide (255<x.Epoch)||(!timeB x.Anchor||prevSeg c i x))))
def segsB(c:Clocks):Bool:=(List.range c.Segments.length).all fun i=>match c.Segments[i]? with|some x=> !segBad c i x|none=>true
theorem Qkv{α:Type}{l:List α}{i:Nat}{y:α}(hl:l.length<=1048576)(hi:0<i)(hlt:i<=l.length)(h:l[i-1]?=some y):idx l (IntKind.i64.wrap ((i:Int)-1))=some y:=by
 rw[Ye (by omega) (by omega),show((i:Int)-1)=((i-1:Nat):Int)by omega]
 exact QV h
theorem QlV(c:Clocks)(hl:c.Segments.length<=1048576):Ev (fun n=>iter (F_hl n c) n 0) (bif segsB c then Ctl.cont ()else Ctl.done 160):=by
 unfold segsB
 refine QbS c.Segments.length _ _ _ (fun i hi=>?_) ?_
 ·have ha:=atN hl hi
  unfold F_hl
  simp only[ha.lt,cond_true,ha.ix,Option.bind_some,ha.nx,ha.get]
  have:Ev (fun n=>((bif decide ((c.Segments[i]).Mat<0)then some true else(bif decide (40<=(c.Segments[i]).Mat)then some true else(bif decide ((c.Segments[i]).Epoch<0)then some true else(bif decide (255<(c.Segments[i]).Epoch)then some true else(F_aw n (c.Segments[i]).Anchor).bind fun r70=>(bif (!r70)then some true else(bif decide (0<(i:Int))then(idx c.Segments (IntKind.i64.wrap ((i:Int)-1))).bind fun x73=>(F_at n x73 (c.Segments[i])).bind fun r74=>some (decide (0<=r74))else some false)))))):Option Bool)) (segBad c i (c.Segments[i])):=by
   unfold segBad
   refine Ql fun _=>Ql fun _=>Ql fun _=>Ql fun _=>Ev.bind (QiY _) (Ql fun _=>?_)
   unfold prevSeg
   refine Ev.and fun h=>?_
   have h0:0<i:=by have:=of_decide_eq_true h;omega
   have h1:i-1<c.Segments.length:=by omega
   rw[Qkv hl h0 (by omega) (List.getElem?_eq_getElem h1),List.getElem?_eq_getElem h1]
   simp only[Option.bind_some]
   exact Ev.bind (QgD _ _) ((Qa _).eq (Qjb _ _))
  refine Ev.bind this ?_
  cases segBad c i (c.Segments[i])<;>exact Qa _
 ·unfold F_hl
  simp only[YR,cond_false]
  exact Qa _
def farBad(x:Int):Bool:=decide (x< -2199023255552)||decide (2199023255552<x)
theorem Qi0(l:List Int)(hl:l.length<=1048576):Ev (fun n=>F_az n l) (l.any farBad):=by
 unfold F_az F_dt
 refine Ev.contains l farBad (fun n x=>F_av n x) (by omega) fun x _=>?_
 unfold F_av farBad
 exact Ev.bind (Ql fun _=>Qa _) (Qa _)
def rowB(c:Clocks)(i:Nat)(r:List Int):Bool:= !(((r.length:Int) != ((c.Segments.length+1:Nat):Int))||((r[i]?.getD 1 != 0)||r.any farBad))
def rowsB(c:Clocks):Bool:=(List.range c.Far.length).all fun i=>match c.Far[i]? with|some r=>rowB c i r|none=>true
theorem QlX(c:Clocks)(h0:c.Segments.length<=1048576)(h1:c.Far.length<=1048576)(h2:∀r∈c.Far,r.length<=1048576)(hd:c.Far.length=c.Segments.length+1):
  Ev (fun n=>iter (F_ik n c) n 0) (bif rowsB c then Ctl.cont ()else Ctl.done 160):=by
 unfold rowsB
 refine QbS c.Far.length _ _ _ (fun i hi=>?_) ?_
 ·have ha:=atN h1 hi
  unfold F_ik
  simp only[ha.lt,cond_true,ha.ix,Option.bind_some,ha.nx,ha.get,Y6 h0]
  have:Ev (fun n=>((bif (((c.Far[i]).length:Int) != ((c.Segments.length+1:Nat):Int))then some true else(idx (c.Far[i]) (i:Int)).bind fun x118=>(bif (x118 != 0)then some true else(F_az n (c.Far[i])).bind fun r120=>some r120)):Option Bool)) (!rowB c i (c.Far[i])):=by
   unfold rowB
   rw[Bool.not_not]
   refine Ql fun h=>?_
   have hlen:(c.Far[i]).length=c.Segments.length+1:=by
    have:((c.Far[i]).length:Int)=((c.Segments.length+1:Nat):Int):=by simpa[bne]using h
    omega
   have hlt:i<(c.Far[i]).length:=by omega
   rw[QV (List.getElem?_eq_getElem hlt),List.getElem?_eq_getElem hlt]
   simp only[Option.bind_some,Option.getD_some]
   exact Ql fun _=>Ev.bind (Qi0 _ (h2 _ ha.mem)) (Qa _)
  refine Ev.bind this ?_
  cases rowB c i (c.Far[i])<;>exact Qa _
 ·unfold F_ik
  simp only[YR,cond_false]
  exact Qa _
def farG(c:Clocks)(i j:Nat):Int:=((c.Far[i]?.getD [])[j]?).getD 0
structure Dims (c:Clocks):Prop where
 segs:c.Segments.length<=511
 far:c.Far.length=c.Segments.length+1
 row:∀i,i<c.Far.length->(c.Far[i]?.getD []).length=c.Segments.length+1
theorem Dims.get{c:Clocks}(d:Dims c){i j:Nat}(hi:i<c.Segments.length+1)(hj:j<c.Segments.length+1):c.Far[i]?=some (c.Far[i]?.getD [])/\(c.Far[i]?.getD [])[j]?=some (farG c i j):=by
 have h1:i<c.Far.length:=by rw[d.far];exact hi
 have h2:=d.row i h1
 refine⟨by rw[List.getElem?_eq_getElem h1];rfl,?_⟩
 unfold farG
 have:j<(c.Far[i]?.getD []).length:=by omega
 rw[List.getElem?_eq_getElem this];rfl
def triB(c:Clocks):Bool:=(List.range (c.Segments.length+1)).all fun i=>(List.range (c.Segments.length+1)).all fun j=>(List.range (c.Segments.length+1)).all fun k=> !decide (IntKind.i64.wrap (farG c i j+farG c j k)<farG c i k)
theorem ltN{a b:Nat}(h:a<b):decide ((a:Int)<(b:Int))=true:=decide_eq_true (by omega)
theorem geN{a b:Nat}(h:b<=a):decide ((a:Int)<(b:Int))=false:=decide_eq_false (by omega)
theorem Qni(c:Clocks)(d:Dims c):Ev (fun n=>iter (F_hw n c) n 0) (bif triB c then Ctl.cont ()else Ctl.done 160):=by
 have hs:=d.segs
 unfold triB
 refine QbS (c.Segments.length+1) _ _ _ (fun i hi=>?_) ?_
 ·unfold F_hw
  have g:=(d.get hi hi).1
  have hr:=d.row i (by rw[d.far];exact hi)
  simp only[Y6 (show c.Segments.length<=1048576 by omega),ltN hi,cond_true,QV g,Option.bind_some,Y6 (show i<=1048576 by omega)]
  refine Ev.bind (QbS (c.Segments.length+1) (fun j=>(List.range (c.Segments.length+1)).all fun k=> !decide (IntKind.i64.wrap (farG c i j+farG c j k)<farG c i k)) (Ctl.done (Ctl.done (Ctl.done 160))) (Ctl.cont ()) (fun j hj=>?_) ?_) ?_
  ·unfold F_iz
   have g1:=(d.get hi hj).2
   have g2:=(d.get hj hj).1
   have hr2:=d.row j (by rw[d.far];exact hj)
   simp only[hr,ltN hj,cond_true,QV g1,QV g2,Option.bind_some,Y6 (show j<=1048576 by omega)]
   refine Ev.bind (QbS (c.Segments.length+1) (fun k=> !decide (IntKind.i64.wrap (farG c i j+farG c j k)<farG c i k)) (Ctl.done (Ctl.done (Ctl.done (Ctl.done (Ctl.done 160))))) (Ctl.cont ()) (fun k hk=>?_) ?_) ?_
   ·unfold F_io
    have g3:=(d.get hj hk).2
    have g4:=(d.get hi hk).2
    simp only[hr2,ltN hk,cond_true,QV g3,QV g,QV g4,Option.bind_some,Y6 (show k<=1048576 by omega)]
    cases decide (IntKind.i64.wrap (farG c i j+farG c j k)<farG c i k)<;>exact Qa _
   ·unfold F_io
    simp only[hr2,geN (Nat.le_refl _),cond_false]
    exact Qa _
   ·cases(List.range (c.Segments.length+1)).all fun k=> !decide (IntKind.i64.wrap (farG c i j+farG c j k)<farG c i k)<;>exact Qa _
  ·unfold F_iz
   simp only[hr,geN (Nat.le_refl _),cond_false]
   exact Qa _
  ·cases(List.range (c.Segments.length+1)).all fun j=>(List.range (c.Segments.length+1)).all fun k=> !decide (IntKind.i64.wrap (farG c i j+farG c j k)<farG c i k)<;>exact Qa _
 ·unfold F_hw
  simp only[Y6 (show c.Segments.length<=1048576 by omega),geN (Nat.le_refl _),cond_false]
  exact Qa _
def clkB(c:Clocks):Bool:= !(decide (511<(c.Segments.length:Int))||((c.Far.length:Int) != ((c.Segments.length+1:Nat):Int)))&&(segsB c&&(rowsB c&&triB c))
structure ClkW (c:Clocks):Prop where
 segs:c.Segments.length<=1048576
 far:c.Far.length<=1048576
 row:∀r∈c.Far,r.length<=1048576
theorem Qil{c:Clocks}(h1:¬511<(c.Segments.length:Int))(h2:c.Far.length=c.Segments.length+1)(h3:rowsB c=true):Dims c:=by
 refine⟨by omega,h2,fun i hi=>?_⟩
 have:=Qnz.1 h3 i hi
 rw[List.getElem?_eq_getElem hi]at this⊢
 simp only[rowB,Bool.not_eq_true',Bool.or_eq_false_iff]at this
 have e:((c.Far[i]).length:Int)=((c.Segments.length+1:Nat):Int):=by simpa[bne]using this.1
 simp only[Option.getD_some]
 omega
theorem QkO(c:Clocks)(w:ClkW c):Ev (fun n=>F_ad n c) (bif clkB c then 0 else 160):=by
 unfold F_ad clkB
 simp only[Y6 w.segs]
 refine Ev.bind (Ql fun _=>Qa _) ?_
 cases h0:(decide (511<(c.Segments.length:Int))||((c.Far.length:Int) != ((c.Segments.length+1:Nat):Int)))with
 |true=>exact Qa _
 |false=>
  simp only[Bool.not_false,Bool.true_and,Bool.or_eq_false_iff,decide_eq_false_iff_not]at h0⊢
  have hd:c.Far.length=c.Segments.length+1:=by
   have:(c.Far.length:Int)=((c.Segments.length+1:Nat):Int):=by simpa[bne]using h0.2
   omega
  refine YK (Ev.bind (QlV c w.segs) ?_)
  cases segsB c with
  |false=>exact Qa _
  |true=>
   refine Ev.bind (QlX c w.segs w.far w.row hd) ?_
   cases h3:rowsB c with
   |false=>exact Qa _
   |true=>
    refine Ev.bind (Qni c (Qil h0.1 hd h3)) ?_
    cases triB c<;>exact Qa _
theorem Qjc{c:Clocks}(h:clkB c=true):Dims c:=by
 simp only[clkB,Bool.and_eq_true,Bool.not_eq_true',Bool.or_eq_false_iff,decide_eq_false_iff_not]at h
 have hd:c.Far.length=c.Segments.length+1:=by
  have:(c.Far.length:Int)=((c.Segments.length+1:Nat):Int):=by simpa[bne]using h.1.2
  omega
 exact Qil h.1.1 hd h.2.2.1
theorem QiB{S B:Type}{step:Nat->S->Option (Ctl S B)}{s0:S}(st:Nat->S)(k:Nat)(p:Nat->Bool)(bx b:B)(h0:st 0=s0)
  (hc:∀i,i<k->(∀j,j<i->p j=true)->Ev (fun n=>step n (st i)) (bif p i then .cont (st (i+1))else .done bx))(hd:(∀j,j<k->p j=true)->Ev (fun n=>step n (st k)) (.done b)):
  Ev (fun n=>Go.Sw.iter (step n) n s0) (bif (List.range k).all p then b else bx):=by
 rcases QaA p k with h|⟨j,h1,h2,h3⟩
 ·rw[Qnz.2 h]
  exact Ev.iter st k h0 (fun i hi=>(hc i hi fun j hj=>h j (by omega)).eq (by rw[h i hi];rfl)) (hd h)
 ·have:(List.range k).all p=false:=by
   rw[Bool.eq_false_iff]
   intro q
   rw[Qnz.1 q j h1]at h2
   cases h2
  rw[this]
  exact Ev.iter st j h0 (fun i hi=>(hc i (by omega) fun j hj=>h3 j (by omega)).eq (by rw[h3 i hi];rfl)) ((hc j h1 h3).eq (by rw[h2];rfl))
structure FewF (f:Field):Prop where
 runs:f.Runners.length<=6
 pairs:f.Pairs.length<=3
 segs:f.Clocks.Segments.length<=4
 far:f.Clocks.Far.length<=6
 row:∀r∈f.Clocks.Far,r.length<=8
 keys:∀r∈f.Runners,r.Keys.length<=5
 wlds:∀r∈f.Runners,r.Worlds.length<=4
 outs:∀r∈f.Runners,∀w∈r.Worlds,w.length<=4
theorem FewF.clk{f:Field}(h:FewF f):ClkW f.Clocks:=⟨by have:=h.segs;omega,by have:=h.far;omega,fun r hr=>by have:=h.row r hr;omega⟩
def fineO(c:Clocks)(x:Outcome):Bool:=decide (-1<=x.Seg)&&(decide (x.Seg<(c.Segments.length:Int))&&(decide (-288230376151711744<=x.Lo)&&(decide (x.Lo<=x.Hi)&&decide (x.Hi<=288230376151711744))))
def outB(c:Clocks)(x:Outcome):Bool:=bif x.Out then x==({Out:=true,Seg:=(-1),Lo:=0,Hi:=0:Outcome})else fineO c x
theorem QgF(c:Clocks)(w:ClkW c)(h:clkB c=true)(x:Outcome):Ev (fun n=>F_dp n c x) (bif outB c x then 0 else 230):=by
 unfold F_dp
 refine Ev.bind (QkO c w) ?_
 rw[h]
 refine YK (Ev.bind (v:=fineO c x) (Ev.and fun _=>Ev.and fun _=>Ev.and fun _=>Ev.and fun _=>Qa _) ?_)
 refine Ev.bind (v:=outB c x) ?_ ?_
 ·unfold outB F_ec
  exact YL (fun _=>Ev.bind (Qa _) (Qa _)) (fun _=>Qa _)
 ·cases outB c x<;>exact Qa _
def pairBad(p last:Pair):Bool:=decide (p.A<1)||(decide (p.B<=p.A)||(decide (9999<p.B)||(decide (p.A<last.A)||((p.A==last.A)&&decide (p.B<=last.B)))))
def lastP(f:Field):Nat->Pair
 |0=>{A:=0,B:=0}
 |j+1=>(f.Pairs[j]?).getD {A:=0,B:=0}
def pairsB(f:Field):Bool:=(List.range f.Pairs.length).all fun i=> !pairBad (lastP f (i+1)) (lastP f i)
theorem QiZ(f:Field)(hl:f.Pairs.length<=1048576):Ev (fun n=>iter (F_gs n f) n ({A:=0,B:=0:Pair},0)) (bif pairsB f then Ctl.cont ()else Ctl.done 240):=by
 unfold pairsB
 refine QiB (fun i=>(lastP f i,(i:Int))) f.Pairs.length _ _ _ rfl (fun i hi _=>?_) (fun _=>?_)
 ·have ha:=atN hl hi
  have e:lastP f (i+1)=f.Pairs[i]:=by show(f.Pairs[i]?).getD _=_;rw[List.getElem?_eq_getElem hi];rfl
  unfold F_gs
  simp only[ha.lt,cond_true,ha.ix,Option.bind_some,ha.nx,e]
  refine Ev.bind (v:=pairBad f.Pairs[i] (lastP f i)) ?_ ?_
  ·unfold pairBad
   exact Ql fun _=>Ql fun _=>Ql fun _=>Ql fun _=>Ev.and fun _=>Qa _
  ·cases pairBad f.Pairs[i] (lastP f i)<;>exact Qa _
 ·unfold F_gs
  simp only[YR,cond_false]
  exact Qa _
theorem Qi5(l:List (List Outcome))(h1:l.length<=1048576)(h2:l.flatten.length<=1048576):Ev (fun n=>F_cf n l) l.flatten:=by
 have len_le:∀i,((l.take i).flatten).length<=l.flatten.length:=by
  intro i
  conv=>rhs;rw[<- List.take_append_drop i l]
  rw[List.flatten_append,List.length_append]
  omega
 have len_nx:∀i x,At l i x->(l.take (i+1)).flatten=(l.take i).flatten++x:=by
  intro i x ha
  rw[ha.take,List.flatten_append];simp
 unfold F_cf
 refine Ev.bind (v:=(l.flatten.length:Int)) ?_ (Ev.bind (v:=[]) ?_ (Ev.bind (v:=l.flatten) ?_ (Qa _)))
 ·refine(Ev.iter (fun i=>((((l.take i).flatten).length:Int),(i:Int))) l.length rfl (fun i hi=>?_) ?_)
  ·have ha:=atN h1 hi
   have hn:=len_le (i+1)
   rw[len_nx i _ ha,List.length_append]at hn
   have e:IntKind.i64.wrap ((((l.take i).flatten).length:Int)+((l[i]).length:Int))=((((l.take i).flatten).length+(l[i]).length:Nat):Int):=by rw[Ye (by omega) (by omega)];omega
   unfold F_iu
   simp only[ha.lt,cond_true,ha.ix,Option.bind_some,ha.nx,e,Ys (show¬((((l.take i).flatten).length+(l[i]).length:Nat):Int)<0 by omega),cond_false]
   rw[len_nx i _ ha,List.length_append]
   exact Qa _
  ·unfold F_iu
   simp only[YR,cond_false,List.take_length]
   exact Qa _
 ·unfold F_ff
  simp only[Ys (show¬(l.flatten.length:Int)<0 by omega),cond_false,Option.bind_some,Int.sub_zero]
  have e:IntKind.i64.wrap (l.flatten.length:Int)=(l.flatten.length:Int):=Ye (by omega) (by omega)
  rw[e]
  by_cases h0:0<(l.flatten.length:Int)
  ·rw[YC h0]
   have:room (l.flatten.length:Int)=some l.flatten.length:=by
    unfold room
    rw[YC h0,YC (show(l.flatten.length:Int)<=4294967296 by omega)]
    rfl
   rw[this]
   exact Qa _
  ·rw[Ys h0]
   exact Qa _
 ·refine(Ev.iter (fun i=>((l.take i).flatten,(i:Int))) l.length rfl (fun i hi=>?_) ?_)
  ·have ha:=atN h1 hi
   have hn:=len_le (i+1)
   rw[len_nx i _ ha,List.length_append]at hn
   unfold F_iy
   simp only[ha.lt,cond_true,ha.ix,Option.bind_some,ha.nx,Ql7 _ _ (show((l.take i).flatten).length+(l[i]).length<=4294967296 by omega)]
   rw[len_nx i _ ha]
   exact Qa _
  ·unfold F_iy
   simp only[YR,cond_false,List.take_length]
   exact Qa _
def lastB(f:Field):Nat->Int
 |0=>0
 |j+1=>((f.Runners[j]?).map (·.Bib)).getD 0
def keys0(f:Field):Nat:=((f.Runners[0]?).map (·.Keys.length)).getD 0
def runBad(f:Field)(last:Int)(r:Runner):Bool:=decide (r.Bib<=last)||(decide (9999<r.Bib)||(((r.Keys.length:Int) != (keys0 f:Int))||((r.Worlds.length:Int) != ((f.Pairs.length+1:Nat):Int))))
def runB(f:Field)(i:Nat):Bool:=match f.Runners[i]? with
 |some r=> !runBad f (lastB f i) r&&r.Worlds.flatten.all (outB f.Clocks)
 |none=>true
def runsB(f:Field):Bool:=(List.range f.Runners.length).all (runB f)
theorem QlR{l:List (List Outcome)}(h:∀w∈l,w.length<=4):l.flatten.length<=4*l.length:=by
 induction l with
 |nil=>simp
 |cons w r ih=>
  have h1:=h w (List.mem_cons_self ..)
  have h2:=ih fun x hx=>h x (List.mem_cons_of_mem _ hx)
  rw[List.flatten_cons,List.length_append,List.length_cons];omega
theorem QlW(f:Field)(k:FewF f)(h:clkB f.Clocks=true):Ev (fun n=>iter (F_go n f) n (0,0)) (bif runsB f then Ctl.cont ()else Ctl.done 240):=by
 have hr:=k.runs
 have hp:=k.pairs
 unfold runsB
 refine QiB (fun i=>(lastB f i,(i:Int))) f.Runners.length _ _ _ rfl (fun i hi _=>?_) (fun _=>?_)
 ·have ha:=atN (by omega) hi
  have e:lastB f (i+1)=(f.Runners[i]).Bib:=by show((f.Runners[i]?).map (·.Bib)).getD 0=_;rw[List.getElem?_eq_getElem hi];rfl
  have h0:0<f.Runners.length:=by omega
  have hg0:idx f.Runners 0=some f.Runners[0]:=QV (i:=0) (List.getElem?_eq_getElem h0)
  have hk0:keys0 f=(f.Runners[0]).Keys.length:=by unfold keys0;rw[List.getElem?_eq_getElem h0];rfl
  unfold F_go runB
  rw[ha.get]
  simp only[ha.lt,cond_true,ha.ix,Option.bind_some,ha.nx,hg0,Y6 (show f.Pairs.length<=1048576 by omega)]
  refine Ev.bind (v:=runBad f (lastB f i) f.Runners[i]) ?_ ?_
  ·unfold runBad
   rw[hk0]
   exact Ql fun _=>Ql fun _=>Ql fun _=>Qa _
  ·cases runBad f (lastB f i) f.Runners[i]with
   |true=>exact Qa _
   |false=>
    have hw:=k.wlds _ ha.mem
    have hfl:=QlR (k.outs _ ha.mem)
    simp only[cond_false,Bool.not_false,Bool.true_and]
    refine Ev.bind (Qi5 _ (by omega) (by omega)) ?_
    refine Ev.bind (Qah (f.Runners[i]).Worlds.flatten (outB f.Clocks) (Ctl.done (Ctl.done (Ctl.done 240))) (Ctl.cont ()) (by omega) (fun j x hb=>?_) ?_) ?_
    ·unfold F_jb
     simp only[hb.lt,cond_true,hb.ix,Option.bind_some,hb.nx]
     refine Ev.bind (QgF _ k.clk h x) ?_
     cases outB f.Clocks x<;>exact Qa _
    ·unfold F_jb
     simp only[YR,cond_false]
     exact Qa _
    ·cases(f.Runners[i]).Worlds.flatten.all (outB f.Clocks)with
     |false=>exact Qa _
     |true=>simp only[cond_true, <- e];exact Qa _
 ·unfold F_go
  simp only[YR,cond_false]
  exact Qa _
def wld(r:Runner)(w:Nat):List Outcome:=(r.Worlds[w]?).getD []
def openW(f:Field)(w:Nat):Bool:= !(f.Runners.any fun r=>(wld r w).isEmpty)
def possB(f:Field):Bool:=(List.range (f.Pairs.length+1)).any (openW f)
def WldOk(f:Field):Prop:=∀r∈f.Runners,r.Worlds.length=f.Pairs.length+1
theorem Qg9{f:Field}(h:WldOk f){r:Runner}(hr:r∈f.Runners){w:Nat}(hw:w<f.Pairs.length+1):idx r.Worlds (w:Int)=some (wld r w):=by
 have:w<r.Worlds.length:=by rw[h r hr];exact hw
 unfold wld
 rw[QV (List.getElem?_eq_getElem this),List.getElem?_eq_getElem this];rfl
theorem Qhp(f:Field)(k:FewF f)(h:WldOk f){w:Nat}(hw:w<f.Pairs.length+1):Ev (fun n=>F_dr n f.Runners (w:Int)) (f.Runners.any fun r=>(wld r w).isEmpty):=by
 have hr:=k.runs
 unfold F_dr F_gh
 refine Ev.contains f.Runners (fun r=>(wld r w).isEmpty) (fun n x=>F_bc n x (w:Int)) (by omega) fun x hx=>?_
 unfold F_bc
 rw[Qg9 h hx hw]
 exact Ev.bind (Qa _) ((Qa _).eq (Qcr _))
theorem Qme{α:Type}(l:List α)(p:α->Bool):(l.all fun x=> !p x)= !l.any p:=by rw[List.not_any_eq_all_not]
theorem QkK(f:Field)(k:FewF f)(h:WldOk f):Ev (fun n=>F_db n f) (possB f):=by
 have hp:=k.pairs
 unfold F_db
 have:Ev (fun n=>iter (F_ia n f) n 0) (bif (List.range (f.Pairs.length+1)).all (fun i=> !openW f i)then Ctl.cont ()else Ctl.done true):=by
  refine QbS (f.Pairs.length+1) _ _ _ (fun i hi=>?_) ?_
  ·unfold F_ia
   simp only[Y6 (show f.Pairs.length<=1048576 by omega),ltN hi,cond_true,Y6 (show i<=1048576 by omega)]
   refine Ev.bind (Qhp f k h hi) ?_
   unfold openW
   cases f.Runners.any fun r=>(wld r i).isEmpty<;>exact Qa _
  ·unfold F_ia
   simp only[Y6 (show f.Pairs.length<=1048576 by omega),geN (Nat.le_refl _),cond_false]
   exact Qa _
 refine Ev.bind this ?_
 unfold possB
 rw[Qme]
 cases(List.range (f.Pairs.length+1)).any (openW f)<;>exact Qa _
def fieldB(f:Field):Bool:=(clkB f.Clocks&& !(decide (16<(f.Pairs.length:Int))||(decide ((f.Runners.length:Int)<1)||decide (4000<(f.Runners.length:Int)))))&&(pairsB f&&(runsB f&&possB f))
theorem Qga{f:Field}(h:runsB f=true):WldOk f:=by
 intro r hr
 obtain⟨i,hi,e⟩:=List.mem_iff_getElem.1 hr
 have:=Qnz.1 h i hi
 unfold runB at this
 rw[List.getElem?_eq_getElem hi,e]at this
 simp only[runBad,Bool.and_eq_true,Bool.not_eq_true',Bool.or_eq_false_iff]at this
 have q:(r.Worlds.length:Int)=((f.Pairs.length+1:Nat):Int):=by simpa[bne]using this.1.2.2.2
 omega
theorem Qek(f:Field)(k:FewF f):Ev (fun n=>F_r n f) (bif fieldB f then 0 else 240):=by
 unfold F_r fieldB
 refine Ev.bind (v:= !(clkB f.Clocks&& !(decide (16<(f.Pairs.length:Int))||(decide ((f.Runners.length:Int)<1)||decide (4000<(f.Runners.length:Int)))))) ?_ ?_
 ·refine Ev.bind (QkO _ k.clk) ?_
  cases clkB f.Clocks with
  |false=>exact Qa _
  |true=>
   simp only[Bool.true_and,Bool.not_not]
   exact YK (Ql fun _=>Ql fun _=>Qa _)
 ·cases h0:clkB f.Clocks&& !(decide (16<(f.Pairs.length:Int))||(decide ((f.Runners.length:Int)<1)||decide (4000<(f.Runners.length:Int))))with
  |false=>exact Qa _
  |true=>
   have hc:clkB f.Clocks=true:=by simp only[Bool.and_eq_true]at h0;exact h0.1
   simp only[Bool.not_true,cond_false,Bool.true_and]
   refine Ev.bind (QiZ f (by have:=k.pairs;omega)) ?_
   cases pairsB f with
   |false=>exact Qa _
   |true=>
    refine Ev.bind (QlW f k hc) ?_
    cases h1:runsB f with
    |false=>exact Qa _
    |true=>
     refine Ev.bind (QkK f k (Qga h1)) ?_
     cases possB f<;>exact Qa _
structure FieldOk (f:Field):Prop where
 few:FewF f
 dims:Dims f.Clocks
 wlds:WldOk f
 outs:∀r∈f.Runners,∀w x,x∈wld r w->outB f.Clocks x=true
 ok:fieldB f=true
theorem QlG{f:Field}(h:runsB f=true){r:Runner}(hr:r∈f.Runners):r.Worlds.flatten.all (outB f.Clocks)=true:=by
 obtain⟨i,hi,e⟩:=List.mem_iff_getElem.1 hr
 have:=Qnz.1 h i hi
 unfold runB at this
 rw[List.getElem?_eq_getElem hi,e]at this
 simp only[Bool.and_eq_true]at this
 exact this.2
theorem QeI{f:Field}(k:FewF f)(h:fieldB f=true):FieldOk f:=by
 have h':=h
 simp only[fieldB,Bool.and_eq_true]at h'
 obtain⟨⟨h1,_⟩,_,h2,_⟩:=h'
 refine⟨k,Qjc h1,Qga h2,fun r hr w x hx=>?_,h⟩
 refine List.all_eq_true.1 (QlG h2 hr) x ?_
 unfold wld at hx
 cases q:r.Worlds[w]? with
 |none=>rw[q]at hx;cases hx
 |some l=>rw[q]at hx;exact List.mem_flatten.2 ⟨l,List.mem_of_getElem? q,hx⟩
theorem QlC{f:Field}(o:FieldOk f){r:Runner}(hr:r∈f.Runners)(w:Nat):(wld r w).length<=4:=by
 unfold wld
 cases q:r.Worlds[w]? with
 |none=>simp
 |some l=>exact o.few.outs r hr l (List.mem_of_getElem? q)
def worldsN(f:Field):List Nat:=(List.range (f.Pairs.length+1)).filter (openW f)
theorem QgG(f:Field)(k:FewF f)(h:WldOk f){w:Nat}(hw:w<f.Pairs.length+1):Ev (fun n=>F_bn n f.Runners (w:Int)) (f.Runners.any fun r=>(wld r w).isEmpty):=by
 have hr:=k.runs
 unfold F_bn F_fe
 refine Ev.contains f.Runners (fun r=>(wld r w).isEmpty) (fun n x=>F_ay n x (w:Int)) (by omega) fun x hx=>?_
 unfold F_ay
 rw[Qg9 h hx hw]
 exact Ev.bind (Qa _) ((Qa _).eq (Qcr _))
theorem Qc2(f:Field)(o:FieldOk f):Ev (fun n=>F_t n f) ((worldsN f).map (fun(w:Nat)=>(w:Int)),()):=by
 have hp:=o.few.pairs
 unfold F_t
 have loop:∀(m i:Nat),i+m=f.Pairs.length+1->EvL (fun n=>F_ey n f) (i:Int) (((List.range' i m).filter (openW f)).map (fun(w:Nat)=>(w:Int)),()):=by
  intro m
  induction m with
  |zero=>
   intro i hi
   refine EvL.done ?_
   unfold F_ey
   simp only[Y6 (show f.Pairs.length<=1048576 by omega),geN (show f.Pairs.length+1<=i by omega),cond_false]
   exact Qa _
  |succ m ih=>
   intro i hi
   have hlt:i<f.Pairs.length+1:=by omega
   have step:Ev (fun n=>F_ey n f (i:Int)) ((bif openW f i then[(i:Int)]else[]),Ctl.cont ((i+1:Nat):Int)):=by
    unfold F_ey
    simp only[Y6 (show f.Pairs.length<=1048576 by omega),ltN hlt,cond_true,Y6 (show i<=1048576 by omega)]
    refine Ev.bind (QgG f o.few o.wlds hlt) ?_
    unfold openW
    cases f.Runners.any fun r=>(wld r i).isEmpty<;>exact Qa _
   refine(EvL.cont step (ih (i+1) (by omega))).eq ?_
   rw[List.range'_succ,List.filter_cons]
   cases openW f i<;>simp
 refine Ev.bind (loop (f.Pairs.length+1) 0 (by omega)).ev ((Qa _).eq ?_)
 unfold worldsN
 rw[List.range_eq_range']
 simp
theorem Qb0{f:Field}{w:Nat}(h:w∈worldsN f):w<f.Pairs.length+1/\openW f w=true:=by
 unfold worldsN at h
 have:=List.mem_filter.1 h
 exact⟨by simpa using this.1,this.2⟩
theorem Qdx{S T B:Type}{step:Nat->S->T->Option (Ctl S B)}(g:S->T->S):∀(l:List T) (s:S),(∀s,∀x∈l,Ev (fun n=>step n s x) (.cont (g s x)))->Ev (fun n=>Qbz (step n) l s) (.cont (l.foldl g s))
 |[],s,_=>Qa _
 |x::l,s,h=>Ev.bind (h s x (List.mem_cons_self ..)) (Qdx g l (g s x) fun s y hy=>h s y (List.mem_cons_of_mem _ hy))
def cmpL:List Int->List Int->Int
 |[],[]=>0
 |[],_::_=> -1
 |_::_,[]=>1
 |x::a,y::b=>bif cmpI x y != 0 then cmpI x y else cmpL a b
theorem Qif(a b:List Int)(ha:a.length<=1048576)(hb:b.length<=1048576):Ev (fun n=>F_s n a b) (cmpL a b):=by
 unfold F_s
 have loop2:∀(r:List Int) (i:Nat),a.drop i=r->i<=a.length->i<=b.length->∃res:Ctl Unit Int,EvI (fun n=>F_bm n a b) (i:Int) res/\(match res with|.cont _=>(bif decide ((a.length:Int)<(b.length:Int))then(-1:Int)else 0)|.done v=>v)=cmpL r (b.drop i):=by
  intro r
  induction r with
  |nil=>
   intro i hr hi hib
   refine⟨.cont (),EvI.done ?_,?_⟩
   ·unfold F_bm
    simp only[YB hr hi,cond_false]
    exact Qa _
   ·have h1:i=a.length:=by have:=List.drop_eq_nil_iff.1 hr;omega
    cases q:b.drop i with
    |nil=>
     have:=List.drop_eq_nil_iff.1 q
     simp only[Ys (show¬(a.length:Int)<(b.length:Int)by omega),cond_false,cmpL]
    |cons y s=>
     have:i<b.length:=by
      rcases Nat.lt_or_ge i b.length with z|z
      ·exact z
      ·rw[List.drop_of_length_le z]at q;cases q
     simp only[YC (show(a.length:Int)<(b.length:Int)by omega),cond_true,cmpL]
  |cons x r ih=>
   intro i hr hi hib
   obtain⟨h1,h2⟩:=Q3 (by omega) hr
   by_cases hb2:b.length<=i
   ·refine⟨.done 1,EvI.done ?_,?_⟩
    ·unfold F_bm
     simp only[h1.lt,cond_true,h1.ix,Option.bind_some,YC (show(b.length:Int)<=(i:Int)by omega)]
     exact Qa _
    ·rw[List.drop_of_length_le hb2];rfl
   ·have hbi:i<b.length:=by omega
    rw[List.drop_eq_getElem_cons hbi]
    cases q:(cmpI x b[i] != 0)with
    |true=>
     refine⟨.done (cmpI x b[i]),EvI.done ?_,?_⟩
     ·unfold F_bm
      simp only[h1.lt,cond_true,h1.ix,Option.bind_some,Ys (show¬(b.length:Int)<=(i:Int)by omega),cond_false,QV (List.getElem?_eq_getElem hbi)]
      refine Ev.bind (QfN _ _) ?_
      rw[q]
      exact Qa _
     ·simp only[cmpL,q,cond_true]
    |false=>
     obtain⟨res,g1,g2⟩:=ih (i+1) h2 (by have:=h1.lt';omega) (by omega)
     refine⟨res,EvI.cont ?_ g1,?_⟩
     ·unfold F_bm
      simp only[h1.lt,cond_true,h1.ix,Option.bind_some,Ys (show¬(b.length:Int)<=(i:Int)by omega),cond_false,QV (List.getElem?_eq_getElem hbi),h1.nx]
      refine Ev.bind (QfN _ _) ?_
      rw[q]
      exact Qa _
     ·simp only[cmpL,q,cond_false]
      exact g2
 obtain⟨res,g1,g2⟩:=loop2 a 0 rfl (Nat.zero_le _) (Nat.zero_le _)
 rw[List.drop_zero]at g2
 refine Ev.bind g1.ev ?_
 rw[<- g2]
 cases res with
 |done v=>exact Qa _
 |cont _=>exact YL (fun _=>Qa _) (fun _=>Qa _)
def sg(x:Outcome):Nat:=(x.Seg+1).toNat
theorem QhZ{c:Clocks}{x:Outcome}(hs:c.Segments.length<=511)(h:outB c x=true)(ho:x.Out=false):sg x<c.Segments.length+1/\IntKind.i64.wrap (x.Seg+1)=(sg x:Int):=by
 unfold outB at h
 rw[ho]at h
 simp only[cond_false,fineO,Bool.and_eq_true,decide_eq_true_eq]at h
 obtain⟨h1,h2,_⟩:=h
 unfold sg
 rw[Ye (by omega) (by omega)]
 omega
def gapD(best:Bool)(c:Clocks)(a b:Nat):Int:=bif best then farG c a b else IntKind.i64.wrap (0-farG c b a)
def keysF(f:Field)(k:Nat):List Int:=((f.Runners[k]?).map (·.Keys)).getD []
def diffD(best:Bool)(c:Clocks)(x y:Outcome):Int:=IntKind.i64.wrap (IntKind.i64.wrap ((bif best then y.Hi else y.Lo)+gapD best c (sg x) (sg y))-(bif best then x.Lo else x.Hi))
def aheadD(best:Bool)(f:Field)(i:Nat)(x:Outcome)(k:Nat)(y:Outcome):Bool:=
 bif y.Out then false else decide (diffD best f.Clocks x y<0)||((diffD best f.Clocks x y==0)&&decide (cmpL (keysF f k) (keysF f i)<0))
theorem Qdv{f:Field}{k:Nat}(hk:k<f.Runners.length):idx f.Runners (k:Int)=some f.Runners[k]/\keysF f k=(f.Runners[k]).Keys:=by
 unfold keysF
 exact⟨QV (List.getElem?_eq_getElem hk),by rw[List.getElem?_eq_getElem hk];rfl⟩
theorem Qcs{f:Field}(o:FieldOk f){k:Nat}(hk:k<f.Runners.length):(f.Runners[k]).Keys.length<=1048576:=by have:=o.few.keys _ (List.getElem_mem hk);omega
theorem Qi7(f:Field)(o:FieldOk f){i k:Nat}(hi:i<f.Runners.length)(hk:k<f.Runners.length){x y:Outcome}(hx:outB f.Clocks x=true)(hxo:x.Out=false)(hy:outB f.Clocks y=true):
  Ev (fun n=>F_bs n f (i:Int) x (k:Int) y) (aheadD true f i x k y):=by
 unfold F_bs aheadD
 refine YL (fun _=>Qa _) fun hyo=>?_
 have hs:=o.dims.segs
 obtain⟨x1,x2⟩:=QhZ hs hx hxo
 obtain⟨y1,y2⟩:=QhZ hs hy hyo
 obtain⟨g1,g2⟩:=o.dims.get x1 y1
 have e:∀n,F_dq n f.Clocks.Far (sg x:Int) (sg y:Int)=some (farG f.Clocks (sg x) (sg y)):=by
  intro n
  unfold F_dq
  rw[QV g1,Option.bind_some,QV g2];rfl
 unfold F_ak F_ab
 simp only[Option.bind_some,x2,y2,e]
 refine Ev.bind (Ql fun _=>Ev.and fun _=>?_) (Qa _)
 obtain⟨k1,k2⟩:=Qdv hk
 obtain⟨i1,i2⟩:=Qdv hi
 simp only[k1,i1,Option.bind_some,k2,i2]
 exact Ev.bind (Qif _ _ (Qcs o hk) (Qcs o hi)) (Qa _)
theorem Qi6(f:Field)(o:FieldOk f){i k:Nat}(hi:i<f.Runners.length)(hk:k<f.Runners.length){x y:Outcome}(hx:outB f.Clocks x=true)(hxo:x.Out=false)(hy:outB f.Clocks y=true):
  Ev (fun n=>F_dc n f (i:Int) x (k:Int) y) (aheadD false f i x k y):=by
 unfold F_dc aheadD
 refine YL (fun _=>Qa _) fun hyo=>?_
 have hs:=o.dims.segs
 obtain⟨x1,x2⟩:=QhZ hs hx hxo
 obtain⟨y1,y2⟩:=QhZ hs hy hyo
 obtain⟨g1,g2⟩:=o.dims.get y1 x1
 have e:∀n,F_bw n f.Clocks.Far (sg x:Int) (sg y:Int)=some (IntKind.i64.wrap (0-farG f.Clocks (sg y) (sg x))):=by
  intro n
  unfold F_bw
  rw[QV g1,Option.bind_some,QV g2];rfl
 unfold F_ak F_ab
 simp only[Option.bind_some,x2,y2,e]
 refine Ev.bind (Ql fun _=>Ev.and fun _=>?_) (Qa _)
 obtain⟨k1,k2⟩:=Qdv hk
 obtain⟨i1,i2⟩:=Qdv hi
 simp only[k1,i1,Option.bind_some,k2,i2]
 exact Ev.bind (Qif _ _ (Qcs o hk) (Qcs o hi)) (Qa _)
def wldF(f:Field)(k w:Nat):List Outcome:=((f.Runners[k]?).map (wld · w)).getD []
theorem QlD{f:Field}{k:Nat}(hk:k<f.Runners.length)(w:Nat):wldF f k w=wld f.Runners[k] w:=by
 unfold wldF
 rw[List.getElem?_eq_getElem hk];rfl
def chooseR(best:Bool)(f:Field)(w i:Nat)(x:Outcome)(k:Nat):Bool:=bif best then(wldF f k w).all (aheadD true f i x k)else(wldF f k w).any (aheadD false f i x k)
theorem Ev.find{α R:Type}{step:Nat->Int->Option (Ctl Int (Ctl Unit R))}(l:List α)(q:α->Bool)(out:Nat->R)(hl:l.length<=1048576)
  (hs:∀i x,At l i x->Ev (fun n=>step n (i:Int)) (bif q x then .done (.done (out i))else .cont ((i+1:Nat):Int)))(hd:Ev (fun n=>step n (l.length:Int)) (.done (.cont ()))):
  (l.any q=false/\Ev (fun n=>Go.Sw.iter (step n) n 0) (Ctl.cont ()))\/(l.any q=true/\ ∃i,Ev (fun n=>Go.Sw.iter (step n) n 0) (Ctl.done (out i))):=by
 let p:Nat->Bool:=fun i=>match l[i]? with|some x=> !q x|none=>true
 have hp:∀i x,At l i x->p i= !q x:=fun i x ha=>by show(match l[i]? with|some x=> !q x|none=>true)=_;rw[ha.get]
 rcases QaA p l.length with h|⟨j,h1,h2,h3⟩
 ·refine .inl ⟨?_,?_⟩
  ·rw[Bool.eq_false_iff]
   intro e
   obtain⟨x,hx,hq⟩:=List.any_eq_true.1 e
   obtain⟨i,hi,e2⟩:=List.mem_iff_getElem.1 hx
   have:=hp i _ (atN hl hi)
   rw[h i hi,e2,hq]at this
   cases this
  ·refine Ev.iter (fun i=>(i:Int)) l.length rfl (fun i hi=>(hs i _ (atN hl hi)).eq ?_) hd
   have:=hp i _ (atN hl hi)
   rw[h i hi]at this
   have e:q l[i]=false:=by cases z:q l[i]<;>rw[z]at this<;>simp at this⊢
   rw[e];rfl
 ·have e:q l[j]=true:=by
   have:=hp j _ (atN hl h1)
   rw[h2]at this
   cases z:q l[j]<;>rw[z]at this<;>simp at this⊢
  refine .inr ⟨List.any_eq_true.2 ⟨l[j],List.getElem_mem h1,e⟩,j,?_⟩
  refine Ev.iter (fun i=>(i:Int)) j rfl (fun i hi=>(hs i _ (atN hl (by omega))).eq ?_) ((hs j _ (atN hl h1)).eq (by rw[e];rfl))
  have:=hp i _ (atN hl (by omega))
  rw[h3 i hi]at this
  have e:q l[i]=false:=by cases z:q l[i]<;>rw[z]at this<;>simp at this⊢
  rw[e];rfl
theorem Qcg{f:Field}(o:FieldOk f){k w:Nat}(hk:k<f.Runners.length)(hw:w<f.Pairs.length+1):idx f.Runners (k:Int)=some f.Runners[k]/\idx (f.Runners[k]).Worlds (w:Int)=some (wldF f k w)/\(wldF f k w).length<=4/\ ∀y∈wldF f k w,outB f.Clocks y=true:=by
 rw[QlD hk]
 exact⟨QV (List.getElem?_eq_getElem hk),Qg9 o.wlds (List.getElem_mem hk) hw,QlC o (List.getElem_mem hk) w,fun y hy=>o.outs _ (List.getElem_mem hk) w y hy⟩
theorem Qhu(f:Field)(o:FieldOk f){i k w:Nat}(hi:i<f.Runners.length)(hk:k<f.Runners.length)(hw:w<f.Pairs.length+1){x:Outcome}(hx:outB f.Clocks x=true)(hxo:x.Out=false):
  ∃a,Ev (fun n=>F_bf n f (w:Int) (i:Int) x (k:Int)) (a,chooseR true f w i x k):=by
 obtain⟨g1,g2,g3,g4⟩:=Qcg o hk hw
 have e21:decide ((2:Int)<1)=false:=by decide
 have step:∀j y,At (wldF f k w) j y->Ev (fun n=>F_ev n f (i:Int) x (k:Int) (wldF f k w) (j:Int)) (bif !aheadD true f i x k y then .done (.done ((j:Int),false))else .cont ((j+1:Nat):Int)):=by
  intro j y ha
  unfold F_ev
  simp only[ha.lt,cond_true,ha.ix,Option.bind_some,ha.nx,e21]
  refine Ev.bind (Qi7 f o hi hk hx hxo (g4 y ha.mem)) ?_
  cases aheadD true f i x k y<;>exact Qa _
 have fin:Ev (fun n=>F_ev n f (i:Int) x (k:Int) (wldF f k w) ((wldF f k w).length:Int)) (.done (.cont ())):=by
  unfold F_ev
  simp only[YR,cond_false]
  exact Qa _
 have hc:chooseR true f w i x k= !((wldF f k w).any fun y=> !aheadD true f i x k y):=by
  unfold chooseR
  rw[cond_true, <- List.all_eq_not_any_not]
 unfold F_bf F_ag
 simp only[Option.bind_some,g1,g2]
 rcases Ev.find (wldF f k w) (fun y=> !aheadD true f i x k y) (fun j=>((j:Int),false)) (by omega) step fin with⟨h1,h2⟩|⟨h1,j,h2⟩
 ·exact⟨0,Ev.bind h2 ((Qa _).eq (by rw[hc,h1];rfl))⟩
 ·exact⟨(j:Int),Ev.bind h2 ((Qa _).eq (by rw[hc,h1];rfl))⟩
theorem Qht(f:Field)(o:FieldOk f){i k w:Nat}(hi:i<f.Runners.length)(hk:k<f.Runners.length)(hw:w<f.Pairs.length+1){x:Outcome}(hx:outB f.Clocks x=true)(hxo:x.Out=false):
  ∃a,Ev (fun n=>F_ax n f (w:Int) (i:Int) x (k:Int)) (a,chooseR false f w i x k):=by
 obtain⟨g1,g2,g3,g4⟩:=Qcg o hk hw
 have e21:decide ((1:Int)<2)=true:=by decide
 have step:∀j y,At (wldF f k w) j y->Ev (fun n=>F_ef n f (i:Int) x (k:Int) (wldF f k w) (j:Int)) (bif aheadD false f i x k y then .done (.done ((j:Int),true))else .cont ((j+1:Nat):Int)):=by
  intro j y ha
  unfold F_ef
  simp only[ha.lt,cond_true,ha.ix,Option.bind_some,ha.nx,e21]
  refine Ev.bind (Qi6 f o hi hk hx hxo (g4 y ha.mem)) ?_
  cases aheadD false f i x k y<;>exact Qa _
 have fin:Ev (fun n=>F_ef n f (i:Int) x (k:Int) (wldF f k w) ((wldF f k w).length:Int)) (.done (.cont ())):=by
  unfold F_ef
  simp only[YR,cond_false]
  exact Qa _
 have hc:chooseR false f w i x k=(wldF f k w).any fun y=>aheadD false f i x k y:=rfl
 unfold F_ax F_aj
 simp only[Option.bind_some,g1,g2]
 rcases Ev.find (wldF f k w) (fun y=>aheadD false f i x k y) (fun j=>((j:Int),true)) (by omega) step fin with⟨h1,h2⟩|⟨h1,j,h2⟩
 ·exact⟨0,Ev.bind h2 ((Qa _).eq (by rw[hc,h1];rfl))⟩
 ·exact⟨(j:Int),Ev.bind h2 ((Qa _).eq (by rw[hc,h1]))⟩
def cntR(p:Nat->Bool)(k:Nat):Nat:=((List.range k).filter p).length
theorem Qff(p:Nat->Bool)(k:Nat):cntR p (k+1)=cntR p k+(bif p k then 1 else 0):=by
 unfold cntR
 rw[List.range_succ,List.filter_append,List.length_append]
 cases h:p k<;>simp[h]
theorem Ql5(p:Nat->Bool)(k:Nat):cntR p k<=k:=by
 unfold cntR
 exact Nat.le_trans (List.length_filter_le ..) (by simp)
def rivalP(best:Bool)(f:Field)(w i:Nat)(x:Outcome)(k:Nat):Bool:=bif Nat.beq k i then false else chooseR best f w i x k
def rankAt(best:Bool)(f:Field)(w i:Nat)(x:Outcome):Nat:=1+cntR (rivalP best f w i x) f.Runners.length
theorem Qe6{step:Nat->Int×Int->Option (Ctl (Int×Int) Int)}{ch:Nat->Int->Option (Int×Bool)}(f:Field)(best:Bool)(w i:Nat)(x:Outcome)(hr:f.Runners.length<=6)
  (hs:∀n s,step n s=(bif decide (s.2<(f.Runners.length:Int))then((bif (s.2==(i:Int))then some s.1 else(ch n s.2).bind fun r1187=>((bif r1187.2 then some (IntKind.i64.wrap (s.1+1))else some s.1):Option Int).bind fun b1189=>some b1189):Option Int).bind fun b1184=>some (.cont (b1184,IntKind.i64.wrap (s.2+1)))else some (.done s.1)))
  (hch:∀k,k<f.Runners.length->k≠i->∃a,Ev (fun n=>ch n (k:Int)) (a,chooseR best f w i x k)):
  Ev (fun n=>Go.Sw.iter (step n) n (1,0)) ((rankAt best f w i x:Nat):Int):=by
 refine Ev.iter (fun k=>(((1+cntR (rivalP best f w i x) k:Nat):Int),(k:Int))) f.Runners.length (by simp[cntR]) (fun k hk=>?_) ?_
 ·refine QeJ ?_ fun n=>hs n _
  have hle:=Ql5 (rivalP best f w i x) k
  simp only[ltN hk,cond_true,Y6 (show k<=1048576 by omega),Qff]
  by_cases e:k=i
  ·have e1:((k:Int)==(i:Int))=true:=by rw[e];simp
   have e2:rivalP best f w i x k=false:=by unfold rivalP;rw[e,Nat.beq_refl];rfl
   simp only[e1,cond_true,Option.bind_some,e2,cond_false,Nat.add_zero]
   exact Qa _
  ·have e1:((k:Int)==(i:Int))=false:=beq_false_of_ne (by omega)
   have e2:rivalP best f w i x k=chooseR best f w i x k:=by
    unfold rivalP
    have:Nat.beq k i=false:=by rw[Bool.eq_false_iff];intro q;exact e (Nat.eq_of_beq_eq_true q)
    rw[this];rfl
   obtain⟨a,ha⟩:=hch k hk e
   simp only[e1,cond_false,e2]
   refine Ev.bind (Ev.bind ha (Ev.bind (v:=((1+(cntR (rivalP best f w i x) k+bif chooseR best f w i x k then 1 else 0):Nat):Int)) ?_ (Qa _))) (Qa _)
   cases chooseR best f w i x k with
   |false=>exact Qa _
   |true=>
    refine(Qa _).eq ?_
    rw[Y6 (show 1+cntR (rivalP best f w i x) k<=1048576 by omega)]
    rfl
 ·refine QeJ ?_ fun n=>hs n _
  simp only[geN (Nat.le_refl _),cond_false]
  exact Qa _
theorem QkF(f:Field)(o:FieldOk f){i w:Nat}(hi:i<f.Runners.length)(hw:w<f.Pairs.length+1){x:Outcome}(hx:outB f.Clocks x=true)(hxo:x.Out=false):
  Ev (fun n=>Go.Sw.iter (F_hx n f (i:Int) (w:Int) x) n (1,0)) ((rankAt true f w i x:Nat):Int):=
 Qe6 (step:=fun n=>F_hx n f (i:Int) (w:Int) x) (ch:=fun n k=>F_bf n f (w:Int) (i:Int) x k) f true w i x o.few.runs (fun n s=>by unfold F_hx;rfl) fun k hk _=>Qhu f o hi hk hw hx hxo
theorem QkE(f:Field)(o:FieldOk f){i w:Nat}(hi:i<f.Runners.length)(hw:w<f.Pairs.length+1){x:Outcome}(hx:outB f.Clocks x=true)(hxo:x.Out=false):
  Ev (fun n=>Go.Sw.iter (F_gm n f (i:Int) (w:Int) x) n (1,0)) ((rankAt false f w i x:Nat):Int):=
 Qe6 (step:=fun n=>F_gm n f (i:Int) (w:Int) x) (ch:=fun n k=>F_ax n f (w:Int) (i:Int) x k) f false w i x o.few.runs (fun n s=>by unfold F_gm;rfl) fun k hk _=>Qht f o hi hk hw hx hxo
abbrev PlB:=ranks_place×Bool
def pref(best:Bool)(n m:Int):Bool:=bif best then decide (n<m)else decide (m<n)
def stepO(best:Bool)(f:Field)(i w:Nat)(acc:PlB)(j:Nat):PlB:=match(wldF f i w)[j]? with
 |none=>acc
 |some x=>bif x.Out then acc else
   bif !acc.2||pref best ((rankAt best f w i x:Nat):Int) acc.1.rank then({world:=(w:Int),outcome:=(j:Int),rank:=((rankAt best f w i x:Nat):Int):ranks_place},true)else acc
def driveW(best:Bool)(f:Field)(i:Nat)(acc:PlB)(w:Nat):PlB:=(List.range (wldF f i w).length).foldl (stepO best f i w) acc
def driveP(best:Bool)(f:Field)(i:Nat):PlB:=(worldsN f).foldl (driveW best f i) (z_ranks_place,false)
theorem Qa1{β:Type}(g:β->Nat->β)(b:β)(k:Nat):(List.range (k+1)).foldl g b=g ((List.range k).foldl g b) k:=by rw[List.range_succ,List.foldl_append];rfl
theorem Qi3(f:Field)(o:FieldOk f){i:Nat}(hi:i<f.Runners.length):Ev (fun n=>F_be n f (i:Int)) (driveP true f i):=by
 have hr:=o.few.runs
 unfold F_be F_o
 simp only[Option.bind_some]
 refine Ev.bind (Qc2 f o) ?_
 have main:Ev (fun n=>Qbz (F_il n f (i:Int)) ((worldsN f).map fun(w:Nat)=>(w:Int)) (z_ranks_place,false)) (.cont (driveP true f i)):=by
  have:=Qdx (step:=fun n=>F_il n f (i:Int)) (fun s (x:Int)=>driveW true f i s x.toNat) ((worldsN f).map fun(w:Nat)=>(w:Int)) (z_ranks_place,false) (fun s x hx=>?_)
  ·refine this.eq ?_
   rw[List.foldl_map]
   simp only[Int.toNat_natCast]
   rfl
  ·obtain⟨w,hw,rfl⟩:=List.mem_map.1 hx
   obtain⟨hw1,_⟩:=Qb0 hw
   obtain⟨g1,g2,g3,g4⟩:=Qcg o hi hw1
   unfold F_il
   simp only[g1,g2,Option.bind_some]
   refine Ev.bind (v:=driveW true f i s w) ?_ (Qa _)
   refine Ev.iter (fun j=>(((List.range j).foldl (stepO true f i w) s).1,((List.range j).foldl (stepO true f i w) s).2,(j:Int))) (wldF f i w).length rfl (fun j hj=>?_) ?_
   ·have ha:=atN (by omega) hj
    unfold F_ja
    simp only[ha.lt,cond_true,ha.ix,Option.bind_some,ha.nx,Qa1]
    generalize(List.range j).foldl (stepO true f i w) s=acc
    have es:stepO true f i w acc j=bif ((wldF f i w)[j]).Out then acc else bif !acc.2||pref true ((rankAt true f w i (wldF f i w)[j]:Nat):Int) acc.1.rank then({world:=(w:Int),outcome:=(j:Int),rank:=((rankAt true f w i (wldF f i w)[j]:Nat):Int):ranks_place},true)else acc:=by
     unfold stepO;rw[ha.get]
    rw[es]
    refine Ev.bind (v:=bif ((wldF f i w)[j]).Out then acc else bif !acc.2||pref true ((rankAt true f w i (wldF f i w)[j]:Nat):Int) acc.1.rank then({world:=(w:Int),outcome:=(j:Int),rank:=((rankAt true f w i (wldF f i w)[j]:Nat):Int):ranks_place},true)else acc) ?_ (Qa _)
    refine YL (fun _=>Qa _) fun hxo=>?_
    refine Ev.bind (QkF f o hi hw1 (g4 _ ha.mem) hxo) ?_
    refine Ev.bind (v:= !acc.2||pref true ((rankAt true f w i (wldF f i w)[j]:Nat):Int) acc.1.rank) (Ql fun _=>by unfold F_ag;exact Qa _) ?_
    cases !acc.2||pref true ((rankAt true f w i (wldF f i w)[j]:Nat):Int) acc.1.rank<;>exact Qa _
   ·unfold F_ja
    simp only[YR,cond_false]
    exact Qa _
 refine Ev.bind main (Qa _)
theorem Qi2(f:Field)(o:FieldOk f){i:Nat}(hi:i<f.Runners.length):Ev (fun n=>F_bb n f (i:Int)) (driveP false f i):=by
 have hr:=o.few.runs
 unfold F_bb F_o
 simp only[Option.bind_some]
 refine Ev.bind (Qc2 f o) ?_
 have main:Ev (fun n=>Qbz (F_gl n f (i:Int)) ((worldsN f).map fun(w:Nat)=>(w:Int)) (z_ranks_place,false)) (.cont (driveP false f i)):=by
  have:=Qdx (step:=fun n=>F_gl n f (i:Int)) (fun s (x:Int)=>driveW false f i s x.toNat) ((worldsN f).map fun(w:Nat)=>(w:Int)) (z_ranks_place,false) (fun s x hx=>?_)
  ·refine this.eq ?_
   rw[List.foldl_map]
   simp only[Int.toNat_natCast]
   rfl
  ·obtain⟨w,hw,rfl⟩:=List.mem_map.1 hx
   obtain⟨hw1,_⟩:=Qb0 hw
   obtain⟨g1,g2,g3,g4⟩:=Qcg o hi hw1
   unfold F_gl
   simp only[g1,g2,Option.bind_some]
   refine Ev.bind (v:=driveW false f i s w) ?_ (Qa _)
   refine Ev.iter (fun j=>(((List.range j).foldl (stepO false f i w) s).1,((List.range j).foldl (stepO false f i w) s).2,(j:Int))) (wldF f i w).length rfl (fun j hj=>?_) ?_
   ·have ha:=atN (by omega) hj
    unfold F_ip
    simp only[ha.lt,cond_true,ha.ix,Option.bind_some,ha.nx,Qa1]
    generalize(List.range j).foldl (stepO false f i w) s=acc
    have es:stepO false f i w acc j=bif ((wldF f i w)[j]).Out then acc else bif !acc.2||pref false ((rankAt false f w i (wldF f i w)[j]:Nat):Int) acc.1.rank then({world:=(w:Int),outcome:=(j:Int),rank:=((rankAt false f w i (wldF f i w)[j]:Nat):Int):ranks_place},true)else acc:=by
     unfold stepO;rw[ha.get]
    rw[es]
    refine Ev.bind (v:=bif ((wldF f i w)[j]).Out then acc else bif !acc.2||pref false ((rankAt false f w i (wldF f i w)[j]:Nat):Int) acc.1.rank then({world:=(w:Int),outcome:=(j:Int),rank:=((rankAt false f w i (wldF f i w)[j]:Nat):Int):ranks_place},true)else acc) ?_ (Qa _)
    refine YL (fun _=>Qa _) fun hxo=>?_
    refine Ev.bind (QkE f o hi hw1 (g4 _ ha.mem) hxo) ?_
    refine Ev.bind (v:= !acc.2||pref false ((rankAt false f w i (wldF f i w)[j]:Nat):Int) acc.1.rank) (Ql fun _=>by unfold F_aj;exact Qa _) ?_
    cases !acc.2||pref false ((rankAt false f w i (wldF f i w)[j]:Nat):Int) acc.1.rank<;>exact Qa _
   ·unfold F_ip
    simp only[YR,cond_false]
    exact Qa _
 refine Ev.bind main (Qa _)
def outW(f:Field)(i w:Nat):Bool:=(wldF f i w).any fun x=>x.Out
def bibF(f:Field)(i:Nat):Int:=((f.Runners[i]?).map (·.Bib)).getD 0
def rank0(f:Field)(i:Nat):Rank:={z_Rank with Bib:=bibF f i,Kind:=3,Out:=(worldsN f).any (outW f i)}
def ofP(f:Field)(i:Nat):Rank:=
 bif !(driveP true f i).2 then rank0 f i else
 bif ((driveP true f i).1.rank==(driveP false f i).1.rank)&& !(rank0 f i).Out then {rank0 f i with Kind:=1,Lo:=(driveP true f i).1.rank,Hi:=(driveP false f i).1.rank}else {rank0 f i with Kind:=2,Lo:=(driveP true f i).1.rank,Hi:=(driveP false f i).1.rank}
theorem QmB(f:Field)(o:FieldOk f){i:Nat}(hi:i<f.Runners.length):Ev (fun n=>F_am n f (i:Int)) (ofP f i):=by
 have hb:bibF f i=(f.Runners[i]).Bib:=by unfold bibF;rw[List.getElem?_eq_getElem hi];rfl
 unfold F_am F_o F_by F_do
 simp only[QV (List.getElem?_eq_getElem hi),Option.bind_some]
 refine Ev.bind (Qc2 f o) ?_
 have main:Ev (fun n=>Qbz (F_gn n f (i:Int)) ((worldsN f).map fun(w:Nat)=>(w:Int)) ({z_Rank with Bib:=(f.Runners[i]).Bib,Kind:=3:Rank})) (.cont (rank0 f i)):=by
  have:=Qdx (step:=fun n=>F_gn n f (i:Int)) (fun s (x:Int)=>{s with Out:=s.Out||outW f i x.toNat:Rank}) ((worldsN f).map fun(w:Nat)=>(w:Int)) ({z_Rank with Bib:=(f.Runners[i]).Bib,Kind:=3:Rank}) (fun s x hx=>?_)
  ·refine this.eq ?_
   rw[List.foldl_map]
   simp only[Int.toNat_natCast]
   have key:∀(l:List Nat) (s:Rank),l.foldl (fun s w=>{s with Out:=s.Out||outW f i w:Rank}) s={s with Out:=s.Out||l.any (outW f i)}:=by
    intro l
    induction l with
    |nil=>intro s;simp
    |cons a l ih=>intro s;rw[List.foldl_cons,ih,List.any_cons,Bool.or_assoc]
   rw[key]
   unfold rank0
   rw[hb]
   simp[z_Rank]
  ·obtain⟨w,hw,rfl⟩:=List.mem_map.1 hx
   obtain⟨hw1,_⟩:=Qb0 hw
   obtain⟨g1,g2,g3,g4⟩:=Qcg o hi hw1
   have hany:Ev (fun n=>F_bq n (wldF f i w)) (outW f i w):=by
    unfold F_bq F_el outW
    refine Ev.contains (wldF f i w) (fun x=>x.Out) (fun n x=>(F_cv n x).bind fun _=>some x.Out) (by omega) fun x hx=>?_
    unfold F_cv
    exact Qa _
   unfold F_gn
   simp only[g1,g2,Option.bind_some,Int.toNat_natCast]
   refine Ev.bind (v:={s with Out:=s.Out||outW f i w:Rank}) ?_ (Qa _)
   cases hso:s.Out with
   |true=>exact(Qa _).eq (by simp)
   |false=>exact Ev.bind hany ((Qa _).eq (by simp))
 refine Ev.bind main ?_
 refine Ev.bind (Qi3 f o hi) ?_
 unfold ofP
 refine YL (fun _=>Qa _) fun _=>?_
 refine Ev.bind (Qi2 f o hi) ?_
 refine Ev.bind (v:=((driveP true f i).1.rank==(driveP false f i).1.rank)&& !(rank0 f i).Out) (Ev.and fun _=>Qa _) ?_
 cases((driveP true f i).1.rank==(driveP false f i).1.rank)&& !(rank0 f i).Out<;>exact Qa _
def allP(f:Field):List Rank:=(List.range f.Runners.length).map (ofP f)
theorem QkQ(f:Field)(k:FewF f):Ev (fun n=>F_an n f) (bif fieldB f then(allP f,0)else([],240)):=by
 have hr:=k.runs
 unfold F_an F_ai
 refine Ev.bind (v:=bif fieldB f then 0 else 240) (Ev.bind (Qek f k) ?_) ?_
 ·cases fieldB f with
  |false=>exact Qa _
  |true=>
   refine YK (Ev.bind (v:=Ctl.cont ()) ?_ (Qa _))
   refine Qbb 1 ?_
   rfl
 ·cases hf:fieldB f with
  |false=>exact Qa _
  |true=>
   have o:=QeI k hf
   refine YK (Ev.bind (v:=allP f) ?_ (Qa _))
   unfold allP
   refine Ev.iter (fun i=>((List.range i).map (ofP f),(i:Int))) f.Runners.length rfl (fun i hi=>?_) ?_
   ·unfold F_iw
    simp only[ltN hi,cond_true,Y6 (show i<=1048576 by omega)]
    refine Ev.bind (QmB f o hi) ?_
    rw[Qc3 (by simp;omega)]
    refine(Qa _).eq ?_
    rw[List.range_succ,List.map_append]
    rfl
   ·unfold F_iw
    simp only[geN (Nat.le_refl _),cond_false]
    exact Qa _
theorem QhP{α:Type}{step:Nat->List α×Int->Option (Ctl (List α×Int) (List α))}(l:List α)(q:α->Bool)(hl:l.length<=1048576)
  (hs:∀i x acc,At l i x->acc.length<=i->Ev (fun n=>step n (acc,(i:Int))) (.cont ((bif q x then acc++[x]else acc),((i+1:Nat):Int))))(hd:∀acc,Ev (fun n=>step n (acc,(l.length:Int))) (.done acc)):
  Ev (fun n=>Go.Sw.iter (step n) n ([],0)) (l.filter q):=by
 refine Ev.iter (fun i=>((l.take i).filter q,(i:Int))) l.length (by simp) (fun i hi=>?_) ((hd _).eq (by rw[List.take_length]))
 have ha:=atN hl hi
 refine(hs i _ _ ha (Nat.le_trans (List.length_filter_le ..) (by simp;omega))).eq ?_
 rw[ha.take,List.filter_append]
 cases h:q l[i]<;>simp[h]
theorem Qmm{α β:Type}{step:Nat->List β×Int->Option (Ctl (List β×Int) (List β))}(l:List α)(g:α->β)(hl:l.length<=1048576)
  (hs:∀i x acc,At l i x->acc.length<=i->Ev (fun n=>step n (acc,(i:Int))) (.cont (acc++[g x],((i+1:Nat):Int))))(hd:∀acc,Ev (fun n=>step n (acc,(l.length:Int))) (.done acc)):
  Ev (fun n=>Go.Sw.iter (step n) n ([],0)) (l.map g):=by
 refine Ev.iter (fun i=>((l.take i).map g,(i:Int))) l.length (by simp) (fun i hi=>?_) ((hd _).eq (by rw[List.take_length]))
 have ha:=atN hl hi
 refine(hs i _ _ ha (by simp;omega)).eq ?_
 rw[ha.take,List.map_append];rfl
theorem Qls{α T:Type}{step:Nat->Int->Option (List T×Ctl Int Unit)}(l:List α)(g:α->T)(hl:l.length<=1048576)
  (hs:∀i x,At l i x->Ev (fun n=>step n (i:Int)) ([g x],.cont ((i+1:Nat):Int)))(hd:Ev (fun n=>step n (l.length:Int)) ([],.done ())):EvL step 0 (l.map g,()):=by
 have loop:∀(r:List α) (i:Nat),l.drop i=r->i<=l.length->EvL step (i:Int) (r.map g,()):=by
  intro r
  induction r with
  |nil=>
   intro i hr hi
   have:i=l.length:=by have:=List.drop_eq_nil_iff.1 hr;omega
   subst this
   exact EvL.done hd
  |cons x r ih=>
   intro i hr hi
   obtain⟨ha,hr2⟩:=Q3 (by omega) hr
   exact EvL.cont (hs i x ha) (ih (i+1) hr2 (by have:=ha.lt';omega))
 exact loop l 0 rfl (Nat.zero_le _)
abbrev MapI:=List (Int×Int)
def amtS(d k:Int)(m:MapI)(p:Prize):MapI:=bif (p.Distance==d)&&(p.Category==k)then QQ m p.Rank p.Amount else m
def amtF(c:Course)(d k:Int):MapI:=c.Prizes.foldl (amtS d k) []
theorem Qiq(d k:Int):∀(l:List Prize) (m:MapI),(l.foldl (amtS d k) m).length<=m.length+l.length
 |[],m=>Nat.le_refl _
 |p::l,m=>by
  have h:=Qiq d k l (amtS d k m p)
  have h2:(amtS d k m p).length<=m.length+1:=by
   unfold amtS
   cases(p.Distance==d)&&(p.Category==k)with
   |false=>simp
   |true=>exact Qgl m _ _
  rw[List.foldl_cons,List.length_cons]
  omega
theorem Qfj(d k:Int):∀(l:List Prize) (m:MapI),(m.map Prod.fst).Nodup->((l.foldl (amtS d k) m).map Prod.fst).Nodup
 |[],m,h=>h
 |p::l,m,h=>by
  refine Qfj d k l _ ?_
  unfold amtS
  cases(p.Distance==d)&&(p.Category==k)with
  |false=>exact h
  |true=>exact QdY _ _ h
theorem Qhv(c:Course)(d k:Int)(hl:c.Prizes.length<=1048576):Ev (fun n=>F_aa n c d k) (amtF c d k):=by
 unfold F_aa
 refine Ev.bind (Qbm (step:=fun n=>F_if n c d k) c.Prizes (amtS d k) [] (fun m i=>(m,(i:Int))) (fun m=>m) (by omega) rfl (fun i x m ha _=>?_) ?_) (Qa _)
 ·unfold F_if
  simp only[ha.lt,cond_true,ha.ix,Option.bind_some,ha.nx]
  refine Ev.bind (v:=(x.Distance==d)&&(x.Category==k)) (Ev.and fun _=>Qa _) ?_
  unfold amtS
  cases(x.Distance==d)&&(x.Category==k)<;>exact Qa _
 ·unfold F_if
  simp only[YR,cond_false]
  exact Qa _
def keysS(m:MapI):List Int:=Qa0 ltI (m.map Prod.fst)
theorem Qc0(m:MapI):(keysS m).length=m.length:=by unfold keysS;rw[(Q2 _ _).length_eq,List.length_map]
theorem Qhn(m:MapI)(hl:m.length<=1048576):Ev (fun n=>F_cp n m) (keysS m):=by
 unfold F_cp Qk5
 have hb:Nat.ble (List.map Prod.fst m).length QT=true:=QlS (by rw[List.length_map];exact hl)
 rw[hb]
 refine Qlt (Ev.anyP fun p hp=>?_)
 have:p.length=m.length:=by rw[hp.length_eq,List.length_map]
 rw[QjR p (by omega),QiS hp]
 exact Qa _
def ordP(m:MapI):List (Int×Int):=(keysS m).map fun k=>(k,QG m k 0)
theorem Qei(m:MapI)(hl:m.length<=1048576):Ev (fun n=>F_as n m) (ordP m,()):=by
 unfold F_as F_gj
 simp only[Option.bind_some]
 refine Ev.bind (Qhn m hl) ?_
 have h:=Qc0 m
 refine Ev.bind (Qls (step:=fun n=>F_ig n m (keysS m)) (keysS m) (fun k=>(k,QG m k 0)) (by omega) (fun i x ha=>?_) ?_).ev ((Qa _).eq ?_)
 ·unfold F_ig
  simp only[ha.lt,cond_true,ha.ix,Option.bind_some,ha.nx]
  exact Qa _
 ·unfold F_ig
  simp only[YR,cond_false]
  exact Qa _
 ·unfold ordP
  simp
def candB(k:Int)(r:Rank):Bool:=(r.Kind != 3)&&(decide (r.Lo<=k)&&decide (k<=r.Hi))
def candP(all:List Rank)(k:Int):List Rank:=all.filter (candB k)
theorem QgI(all:List Rank)(k:Int)(hl:all.length<=1048576):Ev (fun n=>F_af n all k) (candP all k):=by
 unfold F_af
 refine Ev.bind (QhP (step:=fun n=>F_hi n all k) all (candB k) hl (fun i x acc ha hacc=>?_) fun acc=>?_) (Qa _)
 ·have hlt:=ha.lt'
  unfold F_hi
  simp only[ha.lt,cond_true,ha.ix,Option.bind_some,ha.nx,Qc3 (show acc.length<=140737488 by omega)]
  refine Ev.bind (v:=candB k x) (Ev.and fun _=>Ev.and fun _=>Qa _) ?_
  cases candB k x<;>exact Qa _
 ·unfold F_hi
  simp only[YR,cond_false]
  exact Qa _
def divS(all:List Rank)(s:List Int×MapI)(x:Int×Int):List Int×MapI:=
 match candP all x.1 with
 |[]=>s
 |r::t=>bif t.isEmpty&&(r.Kind==1)then(s.1,QQ s.2 r.Bib x.2)else(s.1++[x.1],s.2)
theorem QgO(all:List Rank)(s:List Int×MapI)(x:Int×Int):(divS all s x).1.length<=s.1.length+1/\(divS all s x).2.length<=s.2.length+1:=by
 unfold divS
 cases candP all x.1 with
 |nil=>exact⟨by simp,by simp⟩
 |cons r t=>
  simp only
  cases t.isEmpty&&(r.Kind==1)with
  |true=>exact⟨by simp,Qgl _ _ _⟩
  |false=>exact⟨by simp,by simp⟩
theorem Qii(all:List Rank):∀(l:List (Int×Int)) (s:List Int×MapI),(l.foldl (divS all) s).1.length<=s.1.length+l.length/\(l.foldl (divS all) s).2.length<=s.2.length+l.length
 |[],s=>⟨Nat.le_refl _,Nat.le_refl _⟩
 |x::l,s=>by
  have h:=Qii all l (divS all s x)
  have h2:=QgO all s x
  rw[List.foldl_cons,List.length_cons]
  omega
def divF(all:List Rank)(m:MapI):List Int×MapI:=(ordP m).foldl (divS all) ([],[])
theorem QdW(m:MapI):(ordP m).length=m.length:=by unfold ordP;rw[List.length_map,Qc0]
theorem QgP(all:List Rank)(m:MapI):(divF all m).1.length<=m.length/\(divF all m).2.length<=m.length:=by
 have h:=Qii all (ordP m) ([],[])
 rw[QdW]at h
 simpa[divF]using h
theorem Qe5(all:List Rank)(e:Int)(hall:all.length<=1048576):∀(l:List (Int×Int)) (s:List Int×MapI),s.1.length+l.length<=1048576->
  Ev (fun n=>Qbz (F_hm n (all,e)) l s) (.cont (l.foldl (divS all) s))
 |[],s,_=>Qa _
 |x::l,s,h=>by
  rw[List.length_cons]at h
  have step:Ev (fun n=>F_hm n (all,e) s x) (.cont (divS all s x)):=by
   unfold F_hm
   refine Ev.bind (QgI all x.1 hall) ?_
   unfold divS
   cases hc:candP all x.1 with
   |nil=>exact Qa _
   |cons r t=>
    have e0:(((r::t).length:Int)==0)=false:=beq_false_of_ne (by rw[List.length_cons];omega)
    have e1:(((r::t).length:Int)==1)=t.isEmpty:=by
     cases t with
     |nil=>rfl
     |cons y t=>exact beq_false_of_ne (by rw[List.length_cons,List.length_cons];omega)
    have e2:idx (r::t) 0=some r:=QV (i:=0) rfl
    simp only[e0,cond_false,e1,e2,Option.bind_some,Qc3 (show s.1.length<=140737488 by omega)]
    refine Ev.bind (v:=bif t.isEmpty&&(r.Kind==1)then(s.1,QQ s.2 r.Bib x.2)else(s.1++[x.1],s.2)) ?_ ?_
    ·refine Ev.bind (v:=t.isEmpty&&(r.Kind==1)) (Ev.and fun _=>Qa _) ?_
     cases t.isEmpty&&(r.Kind==1)<;>exact Qa _
    ·exact Qa _
  refine Ev.bind step (Qe5 all e hall l _ ?_)
  have:=(QgO all s x).1
  omega
def checkV(e:Int)(c:Course)(f:Field)(d k:Int):Int:=
 bif e != 0 then e else bif decide (d<0)||(decide ((c.Distances.length:Int)<=d)||(decide (k< -1)||decide ((c.Categories.length:Int)<=k)))then 310 else bif fieldB f then 0 else 240
theorem QiW(c:Course)(f:Field)(d k e:Int)(he:Ev (fun n=>F_k n c) e)(kf:FewF f):Ev (fun n=>F_al n c f d k) (checkV e c f d k):=by
 unfold F_al checkV
 refine Ev.bind he ?_
 refine YL (fun _=>Qa _) fun _=>?_
 refine Ev.bind (v:=decide (d<0)||(decide ((c.Distances.length:Int)<=d)||(decide (k< -1)||decide ((c.Categories.length:Int)<=k)))) (Ql fun _=>Ql fun _=>Ql fun _=>Qa _) ?_
 refine YL (fun _=>Qa _) fun _=>?_
 refine Ev.bind (Qek f kf) ?_
 cases fieldB f<;>exact Qa _
theorem Qdh{e:Int}{c:Course}{f:Field}{d k:Int}(h:(checkV e c f d k != 0)=false):fieldB f=true:=by
 unfold checkV at h
 cases q:(e != 0)with
 |true=>rw[q]at h;simp only[cond_true]at h;rw[q]at h;cases h
 |false=>
  rw[q]at h
  cases q2:(decide (d<0)||(decide ((c.Distances.length:Int)<=d)||(decide (k< -1)||decide ((c.Categories.length:Int)<=k))))with
  |true=>rw[q2]at h;simp at h
  |false=>
   rw[q2]at h
   cases q3:fieldB f with
   |true=>rfl
   |false=>rw[q3]at h;simp at h
def divV(e:Int)(c:Course)(f:Field)(d k:Int):U_prizes_divide:=
 bif checkV e c f d k != 0 then .c0 (checkV e c f d k)else .c2 ((divF (allP f) (amtF c d k)).2,(divF (allP f) (amtF c d k)).1)
theorem Qeq(c:Course)(d k:Int):(amtF c d k).length<=c.Prizes.length:=by have:=Qiq d k c.Prizes [];simpa[amtF]using this
theorem Qer(f:Field):(allP f).length=f.Runners.length:=by simp[allP]
theorem Qfa(c:Course)(f:Field)(d k e:Int)(he:Ev (fun n=>F_k n c) e)(kf:FewF f)(hp:c.Prizes.length<=1048576):Ev (fun n=>F_ao n c f d k) (divV e c f d k):=by
 have ha:=Qeq c d k
 unfold F_ao divV
 refine Ev.bind (QiW c f d k e he kf) ?_
 cases h:(checkV e c f d k != 0)with
 |true=>exact Qa _
 |false=>
  have hf:=Qdh h
  refine YK (Ev.bind (QkQ f kf) ?_)
  rw[hf]
  simp only[cond_true,bne_self_eq_false,cond_false]
  refine Ev.bind (Qhv c d k hp) ?_
  unfold F_ae
  simp only[Option.bind_some]
  refine Ev.bind (Qei _ (by omega)) ?_
  refine Ev.bind (Qe5 (allP f) 0 (by rw[Qer];have:=kf.runs;omega) (ordP (amtF c d k)) ([],[]) (by rw[QdW];simp;omega)) ?_
  exact Qa _
def payP(m:MapI):List Payment:=(ordP m).map fun p=>{Bib:=p.1,Amount:=p.2}
theorem QgE(m:MapI)(hl:m.length<=1048576):Ev (fun n=>F_ap n m) (payP m):=by
 unfold F_ap F_ae
 simp only[Option.bind_some]
 refine Ev.bind (Qei m hl) ?_
 have key:∀(l:List (Int×Int)) (s:List Payment),s.length+l.length<=1048576->Ev (fun n=>Qbz (F_hz n) l s) (.cont (s++l.map fun p=>({Bib:=p.1,Amount:=p.2}:Payment))):=by
  intro l
  induction l with
  |nil=>intro s _;exact(Qa _).eq (by simp)
  |cons x l ih=>
   intro s h
   rw[List.length_cons]at h
   have step:Ev (fun n=>F_hz n s x) (.cont (s++[({Bib:=x.1,Amount:=x.2}:Payment)])):=by
    unfold F_hz
    rw[Qc3 (by omega)]
    exact Qa _
   refine Ev.bind step ((ih _ (by simp;omega)).eq ?_)
   simp
 refine Ev.bind (key (ordP m) [] (by rw[QdW];simpa using hl)) ((Qa _).eq ?_)
 simp[payP]
def certV(e:Int)(c:Course)(f:Field)(d k:Int):List Payment×Int:=bif checkV e c f d k != 0 then([],checkV e c f d k)else(payP (divF (allP f) (amtF c d k)).2,0)
def openV(e:Int)(c:Course)(f:Field)(d k:Int):List Int×Int:=bif checkV e c f d k != 0 then([],checkV e c f d k)else((divF (allP f) (amtF c d k)).1,0)
theorem Qhx(c:Course)(f:Field)(d k e:Int)(he:Ev (fun n=>F_k n c) e)(kf:FewF f)(hp:c.Prizes.length<=1048576):Ev (fun n=>F_w n c f d k) (certV e c f d k):=by
 have ha:=Qeq c d k
 have hb:=(QgP (allP f) (amtF c d k)).2
 unfold F_w certV
 refine Ev.bind (Qfa c f d k e he kf hp) ?_
 unfold divV
 cases h:(checkV e c f d k != 0)with
 |true=>
  simp only[cond_true,h]
  exact Qa _
 |false=>
  simp only[cond_false]
  exact Ev.bind (QgE _ (by omega)) (Qa _)
theorem Ql1(c:Course)(f:Field)(d k e:Int)(he:Ev (fun n=>F_k n c) e)(kf:FewF f)(hp:c.Prizes.length<=1048576):Ev (fun n=>F_u n c f d k) (openV e c f d k):=by
 unfold F_u openV
 refine Ev.bind (Qfa c f d k e he kf hp) ?_
 unfold divV
 cases h:(checkV e c f d k != 0)with
 |true=>simp only[cond_true];exact Qa _
 |false=>simp only[cond_false];exact Qa _
theorem few25(f:Field)(w:Field.wf f):∃b,Ev (fun n=>F_cu n f) b/\(b=true->FewF f):=by
 obtain⟨⟨⟨s1,_⟩,⟨fa1,fa2⟩,_⟩,⟨p1,_⟩,⟨r1,r2⟩,_⟩:=w
 have keysOk:∀r∈f.Runners,r.Keys.length<=1048576/\r.Worlds.length<=1048576/\ ∀x∈r.Worlds,x.length<=1048576:=fun r hr=>⟨(r2 r hr).2.1.1,(r2 r hr).2.2.1.1,fun x hx=>((r2 r hr).2.2.1.2 x hx).1⟩
 have rB:Runner->Bool:=fun r=>true
 let okR:Runner->Bool:=fun r=> !(decide (5<(r.Keys.length:Int))||decide (4<(r.Worlds.length:Int)))&&r.Worlds.all fun x=> !decide (4<(x.length:Int))
 have g1:Ev (fun n=>iter (F_gv n f) n 0) (bif f.Runners.all okR then Ctl.cont ()else Ctl.done false):=by
  refine Qah f.Runners okR _ _ (by omega) (fun i x ha=>?_) ?_
  ·obtain⟨k1,k2,k3⟩:=keysOk x ha.mem
   unfold F_gv
   simp only[ha.lt,cond_true,ha.ix,Option.bind_some,ha.nx]
   refine Ev.bind (v:=decide (5<(x.Keys.length:Int))||decide (4<(x.Worlds.length:Int))) (Ql fun _=>Qa _) ?_
   show Ev _ (bif !(decide (5<(x.Keys.length:Int))||decide (4<(x.Worlds.length:Int)))&&x.Worlds.all (fun x=> !decide (4<(x.length:Int)))then _ else _)
   cases decide (5<(x.Keys.length:Int))||decide (4<(x.Worlds.length:Int))with
   |true=>exact Qa _
   |false=>
    simp only[cond_false,Bool.not_false,Bool.true_and]
    refine Ev.bind (Qah x.Worlds (fun x=> !decide (4<(x.length:Int))) (Ctl.done (Ctl.done (Ctl.done false))) (Ctl.cont ()) (by omega) (fun j y hb=>?_) ?_) ?_
    ·unfold F_iq
     simp only[hb.lt,cond_true,hb.ix,Option.bind_some,hb.nx]
     cases decide (4<(y.length:Int))<;>exact Qa _
    ·unfold F_iq
     simp only[YR,cond_false]
     exact Qa _
    ·cases x.Worlds.all fun x=> !decide (4<(x.length:Int))<;>exact Qa _
  ·unfold F_gv
   simp only[YR,cond_false]
   exact Qa _
 have g2:Ev (fun n=>iter (F_gp n f) n 0) (bif f.Clocks.Far.all (fun x=> !decide (8<(x.length:Int)))then Ctl.cont ()else Ctl.done false):=by
  refine Qah f.Clocks.Far _ _ _ (by omega) (fun i x ha=>?_) ?_
  ·unfold F_gp
   simp only[ha.lt,cond_true,ha.ix,Option.bind_some,ha.nx]
   cases decide (8<(x.length:Int))<;>exact Qa _
  ·unfold F_gp
   simp only[YR,cond_false]
   exact Qa _
 refine⟨f.Runners.all okR&&(f.Clocks.Far.all (fun x=> !decide (8<(x.length:Int)))&&(decide ((f.Runners.length:Int)<=6)&&(decide ((f.Pairs.length:Int)<=3)&&(decide ((f.Clocks.Segments.length:Int)<=4)&&decide ((f.Clocks.Far.length:Int)<=6))))),?_,fun h=>?_⟩
 ·unfold F_cu
  refine Ev.bind g1 ?_
  cases f.Runners.all okR with
  |false=>exact Qa _
  |true=>
   refine Ev.bind g2 ?_
   cases f.Clocks.Far.all (fun x=> !decide (8<(x.length:Int)))with
   |false=>exact Qa _
   |true=>exact Ev.bind (Ev.and fun _=>Ev.and fun _=>Ev.and fun _=>Qa _) (Qa _)
 ·simp only[Bool.and_eq_true,decide_eq_true_eq]at h
  obtain⟨h1,h2,h3,h4,h5,h6⟩:=h
  have hk:∀r∈f.Runners,r.Keys.length<=5/\r.Worlds.length<=4/\ ∀x∈r.Worlds,x.length<=4:=by
   intro r hr
   have:=List.all_eq_true.1 h1 r hr
   simp only[okR,Bool.and_eq_true,Bool.not_eq_true',Bool.or_eq_false_iff,decide_eq_false_iff_not]at this
   refine⟨by omega,by omega,fun x hx=>?_⟩
   have:=List.all_eq_true.1 this.2 x hx
   simp only[Bool.not_eq_true',decide_eq_false_iff_not]at this
   omega
  refine⟨by omega,by omega,by omega,by omega,fun r hr=>?_,fun r hr=>(hk r hr).1,fun r hr=>(hk r hr).2.1,fun r hr=>(hk r hr).2.2⟩
  have:=List.all_eq_true.1 h2 r hr
  simp only[Bool.not_eq_true',decide_eq_false_iff_not]at this
  omega
theorem Qgk{α:Type}[DecidableEq α]:∀{l m:List α},l.Nodup->(∀a∈l,a∈m)->l.length<=m.length
 |[],m,_,_=>by simp
 |a::l,m,hn,h=>by
  rw[List.nodup_cons]at hn
  have hm:=h a (by simp)
  have:=Qgk (l:=l) (m:=m.erase a) hn.2 fun b hb=>by
   have hne:b≠a:=by rintro rfl;exact hn.1 hb
   exact(List.mem_erase_of_ne hne).2 (h b (by simp[hb]))
  rw[List.length_erase_of_mem hm]at this
  have:=List.length_pos_of_mem hm
  simp only[List.length_cons];omega
theorem Qnn{f:Field}(h:runsB f=true){i:Nat}(hi:i<f.Runners.length):lastB f i<(f.Runners[i]).Bib:=by
 have:=Qnz.1 h i hi
 unfold runB at this
 rw[List.getElem?_eq_getElem hi]at this
 simp only[runBad,Bool.and_eq_true,Bool.not_eq_true',Bool.or_eq_false_iff,decide_eq_false_iff_not]at this
 omega
theorem Qep{f:Field}(h:runsB f=true):∀(j i:Nat) (hi:i<f.Runners.length) (hj:j<f.Runners.length),i<j->(f.Runners[i]).Bib<(f.Runners[j]).Bib
 |0,i,hi,hj,hij=>by omega
 |j+1,i,hi,hj,hij=>by
  have h1:=Qnn h hj
  have e:lastB f (j+1)=(f.Runners[j]).Bib:=by
   show((f.Runners[j]?).map (·.Bib)).getD 0=_
   rw[List.getElem?_eq_getElem (by omega)];rfl
  rw[e]at h1
  by_cases q:i=j
  ·subst q;exact h1
  ·have:=Qep h j i hi (by omega) (by omega)
   omega
theorem FieldOk.runs{f:Field}(o:FieldOk f):runsB f=true:=by
 have:=o.ok
 simp only[fieldB,Bool.and_eq_true]at this
 exact this.2.2.1
theorem Ql6{f:Field}(o:FieldOk f){i j:Nat}(hi:i<f.Runners.length)(hj:j<f.Runners.length)(e:(f.Runners[i]).Bib=(f.Runners[j]).Bib):i=j:=by
 rcases Nat.lt_trichotomy i j with q|q|q
 ·have:=Qep o.runs j i hi hj q;omega
 ·exact q
 ·have:=Qep o.runs i j hj hi q;omega
theorem QiJ(best:Bool)(f:Field)(w i:Nat)(x:Outcome)(hi:i<f.Runners.length):1<=rankAt best f w i x/\rankAt best f w i x<=f.Runners.length:=by
 unfold rankAt
 have key:∀k,cntR (rivalP best f w i x) k+(if i<k then 1 else 0)<=k:=by
  intro k
  induction k with
  |zero=>simp[cntR]
  |succ k ih=>
   rw[Qff]
   by_cases e:k=i
   ·subst e
    have:rivalP best f w k x k=false:=by unfold rivalP;rw[Nat.beq_refl];rfl
    rw[this]
    simp at ih⊢
    omega
   ·cases rivalP best f w i x k<;>simp<;>split at ih<;>split<;>omega
 have:=key f.Runners.length
 rw[if_pos hi]at this
 omega
def PlaceOk(f:Field)(a:PlB):Prop:=a.2=true->1<=a.1.rank/\a.1.rank<=(f.Runners.length:Int)
theorem QjM(best:Bool){f:Field}{i:Nat}(hi:i<f.Runners.length)(w:Nat)(acc:PlB)(j:Nat)(h:PlaceOk f acc):PlaceOk f (stepO best f i w acc j):=by
 unfold stepO
 cases(wldF f i w)[j]? with
 |none=>exact h
 |some x=>
  simp only
  cases x.Out with
  |true=>exact h
  |false=>
   simp only[cond_false]
   cases !acc.2||pref best ((rankAt best f w i x:Nat):Int) acc.1.rank with
   |false=>exact h
   |true=>
    intro _
    have:=QiJ best f w i x hi
    simp only[cond_true]
    omega
theorem QfK{α:Type}{f:Field}(g:PlB->α->PlB)(hg:∀a x,PlaceOk f a->PlaceOk f (g a x)):∀(l:List α) (a:PlB),PlaceOk f a->PlaceOk f (l.foldl g a)
 |[],a,h=>h
 |x::l,a,h=>QfK g hg l _ (hg a x h)
theorem QgL(best:Bool){f:Field}{i:Nat}(hi:i<f.Runners.length):PlaceOk f (driveP best f i):=
 QfK _ (fun a w h=>QfK _ (fun a j h=>QjM best hi w a j h) _ _ h) _ _ fun h=>by cases h
theorem Qhb(b1 b2:Bool)(f:Field)(i w:Nat)(a1 a2:PlB)(j:Nat)(h:a1.2=a2.2):(stepO b1 f i w a1 j).2=(stepO b2 f i w a2 j).2:=by
 unfold stepO
 cases(wldF f i w)[j]? with
 |none=>exact h
 |some x=>
  simp only
  cases x.Out with
  |true=>exact h
  |false=>
   simp only[cond_false]
   have e:∀(b:Bool) (a:PlB),(bif !a.2||pref b ((rankAt b f w i x:Nat):Int) a.1.rank then(({world:=(w:Int),outcome:=(j:Int),rank:=((rankAt b f w i x:Nat):Int):ranks_place},true):PlB)else a).2=true:=by
    intro b a
    cases q:a.2 with
    |false=>rfl
    |true=>cases pref b ((rankAt b f w i x:Nat):Int) a.1.rank<;>simp[q]
   rw[e b1 a1,e b2 a2]
theorem Qc1{α:Type}(g1 g2:PlB->α->PlB)(hg:∀a1 a2 x,a1.2=a2.2->(g1 a1 x).2=(g2 a2 x).2):∀(l:List α) (a1 a2:PlB),a1.2=a2.2->(l.foldl g1 a1).2=(l.foldl g2 a2).2
 |[],_,_,h=>h
 |x::l,a1,a2,h=>Qc1 g1 g2 hg l _ _ (hg a1 a2 x h)
theorem Qhy(f:Field)(i:Nat):(driveP true f i).2=(driveP false f i).2:=
 Qc1 (driveW true f i) (driveW false f i) (fun a1 a2 w h=>Qc1 (stepO true f i w) (stepO false f i w) (fun a1 a2 j h=>Qhb true false f i w a1 a2 j h) _ _ _ h) _ _ _ rfl
theorem QbM(f:Field)(i:Nat):(ofP f i).Bib=bibF f i:=by
 unfold ofP
 cases !(driveP true f i).2 with
 |true=>rfl
 |false=>
  simp only[cond_false]
  cases((driveP true f i).1.rank==(driveP false f i).1.rank)&& !(rank0 f i).Out<;>rfl
theorem Qkl{f:Field}{i:Nat}(hi:i<f.Runners.length)(h:((ofP f i).Kind != 3)=true):1<=(ofP f i).Lo/\(ofP f i).Hi<=(f.Runners.length:Int)/\(((ofP f i).Kind==1)=true->(ofP f i).Lo=(ofP f i).Hi):=by
 have h1:=QgL true hi
 have h2:=QgL false hi
 have h3:=Qhy f i
 unfold PlaceOk at h1 h2
 unfold ofP at h⊢
 cases q:(driveP true f i).2 with
 |false=>rw[q]at h;simp[rank0]at h
 |true=>
  have g1:=h1 q
  have g2:=h2 (by rw[<- h3];exact q)
  simp only[Bool.not_true,cond_false]
  cases z:((driveP true f i).1.rank==(driveP false f i).1.rank)&& !(rank0 f i).Out with
  |true=>
   simp only[cond_true]
   simp only[Bool.and_eq_true,beq_iff_eq]at z
   exact⟨g1.1,g2.2,fun _=>z.1⟩
  |false=>
   simp only[cond_false]
   exact⟨g1.1,g2.2,fun e=>by cases e⟩
theorem QfQ{f:Field}{i:Nat}(hi:i<f.Runners.length):bibF f i=(f.Runners[i]).Bib:=by unfold bibF;rw[List.getElem?_eq_getElem hi];rfl
theorem Qis{f:Field}{r:Rank}(h:r∈allP f):∃i,i<f.Runners.length/\ofP f i=r:=by
 obtain⟨i,hi,e⟩:=List.mem_map.1 h
 exact⟨i,by simpa using hi,e⟩
theorem Qge{f:Field}(o:FieldOk f){i j:Nat}(hi:i<f.Runners.length)(hj:j<f.Runners.length)(e:(ofP f i).Bib=(ofP f j).Bib):i=j:=by
 rw[QbM,QbM,QfQ hi,QfQ hj]at e
 exact Ql6 o hi hj e
def matchP(d k r:Int)(p:Prize):Bool:=(p.Distance==d)&&((p.Category==k)&&(p.Rank==r))
def amountS(c:Course)(d k r:Int):Int:=((c.Prizes.find? (matchP d k r)).map (·.Amount)).getD 0
theorem Qcv(c:Course)(d k r:Int)(hl:c.Prizes.length<=1048576):Ev (fun n=>F_ar n c d k r) (amountS c d k r):=by
 unfold F_ar
 have loop:∀(t:List Prize) (i:Nat),c.Prizes.drop i=t->i<=c.Prizes.length->EvI (fun n=>F_fl n c d k r) (i:Int) (match t.find? (matchP d k r)with|some p=>Ctl.done p.Amount|none=>Ctl.cont ()):=by
  intro t
  induction t with
  |nil=>
   intro i ht hi
   refine EvI.done ?_
   unfold F_fl
   simp only[YB ht hi,cond_false]
   exact Qa _
  |cons p t ih=>
   intro i ht hi
   obtain⟨ha,ht2⟩:=Q3 (by omega) ht
   have step:Ev (fun n=>F_fl n c d k r (i:Int)) (bif matchP d k r p then .done (.done p.Amount)else .cont ((i+1:Nat):Int)):=by
    unfold F_fl
    simp only[ha.lt,cond_true,ha.ix,Option.bind_some,ha.nx]
    refine Ev.bind (v:=matchP d k r p) (Ev.and fun _=>Ev.and fun _=>Qa _) ?_
    cases matchP d k r p<;>exact Qa _
   rw[List.find?_cons]
   cases q:matchP d k r p with
   |true=>rw[q]at step;exact EvI.done step
   |false=>rw[q]at step;exact EvI.cont step (ih (i+1) ht2 (by have:=ha.lt';omega))
 refine Ev.bind (loop c.Prizes 0 rfl (Nat.zero_le _)).ev ?_
 unfold amountS
 cases c.Prizes.find? (matchP d k r)<;>exact Qa _
theorem Qir(d k r:Int):∀(l:List Prize) (m:MapI),Yn (l.foldl (amtS d k) m) r=match(l.filter (matchP d k r)).getLast? with|some p=>some p.Amount|none=>Yn m r
 |[],m=>rfl
 |p::l,m=>by
  rw[List.foldl_cons,Qir d k r l]
  have e:Yn (amtS d k m p) r=if matchP d k r p=true then some p.Amount else Yn m r:=by
   unfold amtS matchP
   cases h1:p.Distance==d with
   |false=>simp
   |true=>
    cases h2:p.Category==k with
    |false=>simp
    |true=>
     simp only[Bool.true_and,cond_true]
     rw[QaC]
     by_cases q:r=p.Rank
     ·simp[q]
     ·have:(p.Rank==r)=false:=beq_false_of_ne fun z=>q z.symm
      simp[q,this]
  rw[e,List.filter_cons]
  by_cases q:matchP d k r p=true
  ·rw[if_pos q,if_pos q]
   cases h:l.filter (matchP d k r)with
   |nil=>rfl
   |cons a t=>rw[List.getLast?_cons_cons];cases z:(a::t).getLast? with
    |none=>simp at z
    |some y=>rfl
  ·rw[if_neg q,if_neg q]
theorem QiN{c:Course}(h:(c.Prizes.map prizeKey).Nodup)(d k r:Int):(c.Prizes.filter (matchP d k r)).length<=1:=by
 have h1:((c.Prizes.filter (matchP d k r)).map prizeKey).Nodup:=(List.filter_sublist.map prizeKey).nodup h
 have h2:∀p∈c.Prizes.filter (matchP d k r),prizeKey p={distance:=d,category:=k,rank:=r}:=by
  intro p hp
  have:=(List.mem_filter.1 hp).2
  simp only[matchP,Bool.and_eq_true,beq_iff_eq]at this
  unfold prizeKey
  rw[this.1,this.2.1,this.2.2]
 match hq:c.Prizes.filter (matchP d k r),h1,h2 with
 |[],_,_=>simp
 |[a],_,_=>simp
 |a::b::t,h1,h2=>
  have e1:=h2 a (by simp)
  have e2:=h2 b (by simp)
  simp only[List.map_cons,List.nodup_cons]at h1
  exact(h1.1 (by rw[e1,e2];simp)).elim
structure PrizesOk (c:Course):Prop where
 keys:(c.Prizes.map prizeKey).Nodup
 pos:∀p∈c.Prizes,1<=p.Amount
theorem QgY{c:Course}(h:courseE c=0):PrizesOk c:=by
 have hn:numbersS c=true:=by
  unfold courseE at h
  cases h1:fitsS c with
  |false=>rw[h1]at h;simp at h
  |true=>
   cases h2:namesS c with
   |false=>rw[h1,h2]at h;simp at h
   |true=>
    cases h3:numbersS c with
    |true=>rfl
    |false=>rw[h1,h2,h3]at h;simp at h
 unfold numbersS at hn
 simp only[Bool.and_eq_true,decide_eq_true_eq,List.all_eq_true]at hn
 obtain⟨_,_,_,_,_,_,_,h1,h2,_⟩:=hn
 refine⟨h2,fun p hp=>?_⟩
 have:=h1 p hp
 simp only[prizeS,inR,Bool.and_eq_true,decide_eq_true_eq]at this
 omega
theorem Qk6{c:Course}(o:PrizesOk c)(d k r:Int):Yn (amtF c d k) r=(c.Prizes.find? (matchP d k r)).map (·.Amount):=by
 unfold amtF
 rw[Qir, <- List.head?_filter]
 have:=QiN o.keys d k r
 match h:c.Prizes.filter (matchP d k r),this with
 |[],_=>rfl
 |[a],_=>rfl
 |a::b::t,z=>exact absurd z (by simp)
theorem Qmd{c:Course}(o:PrizesOk c)(d k r:Int):r∈keysS (amtF c d k)↔0<amountS c d k r:=by
 have e:r∈keysS (amtF c d k)↔r∈(amtF c d k).map Prod.fst:=(Q2 ltI _).mem_iff
 rw[e,Qcp,Qk6 o]
 unfold amountS
 cases h:c.Prizes.find? (matchP d k r)with
 |none=>simp
 |some p=>
  have:=o.pos p (List.mem_of_find?_eq_some h)
  simp
  omega
theorem Qmc{c:Course}(o:PrizesOk c)(d k r:Int):QG (amtF c d k) r 0=amountS c d k r:=by
 have e:QG (amtF c d k) r 0=(Yn (amtF c d k) r).getD 0:=by unfold QG;cases Yn (amtF c d k) r<;>rfl
 rw[e,Qk6 o];rfl
theorem QgR(c:Course)(w:CourseOk c)(q:PartsOk c)(k:FewL c)(hl:c.Ties.length<=1048576)(hw:∀x∈c.Ties,Step.wf x){e:Int}(he:Ev (fun n=>F_k n c) e)(h0:(e != 0)=false):courseE c=0:=by
 have h0':e=0:=by simpa[bne]using h0
 subst h0'
 cases hf:fitsG c with
 |false=>
  have:Ev (fun n=>F_k n c) 2:=by
   unfold F_k
   refine Ev.bind (QgH c w q k) ?_
   rw[hf]
   exact Qa _
  have:=he.uniq this
  cases this
 |true=>
  unfold fitsG at hf
  simp only[Bool.and_eq_true,List.all_eq_true,Bool.not_eq_true',Bool.or_eq_false_iff,decide_eq_false_iff_not]at hf
  have ff:FewOk c:=⟨k.lens,k.name,fun d hd=>⟨by have:=(k.dist d hd).1;omega,by have:=(k.dist d hd).2;omega,by have:=(hf.2 d hd).2;omega⟩,k.ties⟩
  exact(he.uniq (Qfb c w q ff hl hw)).symm
end Go.Sw
