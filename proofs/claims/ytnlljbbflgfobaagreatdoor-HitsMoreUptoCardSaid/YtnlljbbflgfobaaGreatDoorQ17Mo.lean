/- The plain laws that a law needs, with no program in sight. -/
import Derived.Test.YtnlljbbflgfobaaGreatDoorW17Mo
set_option linter.unusedVariables false
set_option linter.unusedSimpArgs false
namespace Go.Sw
def inR(lo hi x:Int):Bool:=decide (lo<=x)&&decide (x<=hi)
theorem Qe0(lo hi:Int)(l:List Int)(hl:l.length<=4611686018427387904):Ev (fun n=>F_a n lo hi l) (l.all (inR lo hi)):=by
 have h:Ev (fun n=>F_bo n l lo hi) (l.any fun x=> !inR lo hi x):=by
  unfold F_bo F_ct
  refine Ev.contains l _ (fun n x=>F_ae n x lo hi) hl fun x _=>?_
  unfold F_ae
  refine Ev.bind (v:= !inR lo hi x) ?_ (Qa _)
  refine(QaJ fun h=>Qa _).eq ?_
  unfold inR
  rw[Bool.eq_iff_iff]
  simp
 unfold F_a
 refine Ev.bind h ((Qa _).eq ?_)
 rw[List.not_any_eq_all_not]
 simp
def okN(c:Nat):Bool:=(decide (97<=c)&&decide (c<=122))||(decide (48<=c)&&decide (c<=57))||decide (c=95)
def okAN(c:Nat):Bool:=decide (97<=c)&&decide (c<=122)
def okC(c:UInt8):Bool:=okN c.toNat
def okA(c:UInt8):Bool:=okAN c.toNat
def kwL:List (List UInt8):=[[99,111,117,114,115,101],[109,97,116,115],[115,116,97,114,116],[112,97,115,115],[101,110,100],[108,101,103],[116,111],[100,105,115,116,97,110,99,101],[103,117,110],[99,104,105,112],[115,108,111,116],[108,97,112,115],[108,97,112],[99,117,116,111,102,102],[101,120,116,114,97],[119,97,118,101],[111,102,102,101,110,99,101],[111,117,116],[99,97,116,101,103,111,114,121],[112,114,105,122,101],[97,108,108],[116,105,101,115],[105,102],[101,108,115,101],[97,110,100],[111,114],[110,111,116],[111,108,100,101,114],[121,111,117,110,103,101,114],[98,105,98],[100,114,97,119],[102,105,101,108,100],[115,104,111,114,116],[102,97,117,108,116,115],[109,105,115,115,101,115],[115,116,114,97,121,115],[119,105,110,100,111,119],[114,101,115,105,100,117,97,108],[100,114,105,102,116],[112,114,111,116,101,115,116],[102,101,101],[100,101,97,100,108,105,110,101]]
theorem Qku(c d:Bool):(bif c then some c else some d)=some (c||d):=by cases c<;>rfl
def kwsOf:List UInt8->List (List UInt8)
 |[]=>[]
 |b::l=>(bif b==32&& !(l.dropWhile fun c=>c != 32).isEmpty then[l.takeWhile fun c=>c != 32]else[])++kwsOf l
theorem Qc2:∀(l s:List UInt8),(∀c∈s,c≠32)->(s++[32]).isPrefixOf l=((l.takeWhile fun c=>c != 32)==s&& !(l.dropWhile fun c=>c != 32).isEmpty)
 |[],s,h=>by cases s<;>simp
 |b::l,[],h=>by
  by_cases e:b=32
  ·subst e;simp[List.isPrefixOf]
  ·have e1:(b != 32)=true:=by simpa using e
   have e2:(32==b)=false:=by simpa using fun q=>e q.symm
   simp[List.isPrefixOf,List.takeWhile_cons,e1,e2]
 |b::l,c::s,h=>by
  have hc:=h c (by simp)
  have ih:=Qc2 l s fun d hd=>h d (by simp[hd])
  by_cases e:b=32
  ·subst e
   have:(c==32)=false:=by simpa using hc
   simp[List.isPrefixOf,this]
  ·have e1:(b != 32)=true:=by simpa using e
   simp only[List.cons_append,List.isPrefixOf,List.takeWhile_cons,List.dropWhile_cons,e1,if_true,ih,List.cons_beq_cons]
   by_cases q:c=b
   ·subst q;simp
   ·have q1:(c==b)=false:=by simpa using q
    have q2:(b==c)=false:=by simpa using fun z=>q z.symm
    simp[q1,q2]
theorem contains_cons(b:UInt8)(l t:List UInt8)(ht:t≠[]):Lib.contains (b::l) t=(t.isPrefixOf (b::l)||Lib.contains l t):=by
 unfold Lib.contains
 rw[show Lib.index (b::l) t=if t.isPrefixOf (b::l)then 0 else if Lib.index l t== -1 then-1 else Lib.index l t+1 from rfl]
 cases h:t.isPrefixOf (b::l)with
 |true=>simp
 |false=>
  have:=Lib.index_ge l t
  by_cases q:Lib.index l t= -1
  ·simp[q]
  ·have q1:(Lib.index l t== -1)=false:=by simpa using q
   simp only[q1,Bool.false_or]
   rw[Bool.eq_iff_iff];simp;omega
theorem Qbs(s:List UInt8)(h:∀c∈s,c≠32):∀l,Lib.contains l (32::(s++[32]))=(kwsOf l).contains s
 |[]=>by simp[Lib.contains,Lib.index,kwsOf]
 |b::l=>by
  rw[contains_cons b l _ (by simp),Qbs s h l]
  simp only[kwsOf,List.isPrefixOf,Qc2 l s h]
  by_cases e:b=32
  ·subst e
   cases q: !(l.dropWhile fun c=>c != 32).isEmpty with
   |true=>
    simp only[q,beq_self_eq_true,Bool.true_and,Bool.and_true,cond_true,List.cons_append,List.nil_append,List.contains_cons]
    congr 1
    rw[Bool.eq_iff_iff];simp only[beq_iff_eq];exact⟨fun h=>h.symm,fun h=>h.symm⟩
   |false=>simp[q]
  ·have e1:(b==32)=false:=by simpa using e
   have e2:(32==b)=false:=by simpa using fun q=>e q.symm
   simp[e1,e2]
def wordsL:List UInt8:=[32,99,111,117,114,115,101,32,109,97,116,115,32,115,116,97,114,116,32,112,97,115,115,32,101,110,100,32,108,101,103,32,116,111,32,100,105,115,116,97,110,99,101,32,103,117,110,32,99,104,105,112,32,115,108,111,116,32,108,97,112,115,32,108,97,112,32,99,117,116,111,102,102,32,101,120,116,114,97,32,119,97,118,101,32,111,102,102,101,110,99,101,32,111,117,116,32,99,97,116,101,103,111,114,121,32,112,114,105,122,101,32,97,108,108,32,116,105,101,115,32,105,102,32,101,108,115,101,32,97,110,100,32,111,114,32,110,111,116,32,111,108,100,101,114,32,121,111,117,110,103,101,114,32,98,105,98,32,100,114,97,119,32,102,105,101,108,100,32,115,104,111,114,116,32,102,97,117,108,116,115,32,109,105,115,115,101,115,32,115,116,114,97,121,115,32,119,105,110,100,111,119,32,114,101,115,105,100,117,97,108,32,100,114,105,102,116,32,112,114,111,116,101,115,116,32,102,101,101,32,100,101,97,100,108,105,110,101,32]
theorem QmD:kwsOf wordsL=kwL:=by decide+kernel
def classTab:List Int:=(List.range 256).map fun i=>if 97<=i/\i<=122\/65<=i/\i<=90 then 2 else if 48<=i/\i<=57 then 3 else if i∈[123,125,40,41,91,93,59,44,61,60,62]then 4 else if i∈[32,9,10,13]then 1 else 0
theorem Qhy:Ev F_ay classTab:=by
 unfold F_ay
 refine Ev.bind (QbI (step:=F_ed 0) 40 (b:=(iter (F_ed 0) 40 (List.replicate 256 0,97)).getD []) (by decide+kernel)) ?_
 refine Ev.bind (QbI (step:=F_ev 0) 40 (b:=(iter (F_ev 0) 40 ((iter (F_ed 0) 40 (List.replicate 256 0,97)).getD [],48)).getD []) (by decide+kernel)) ?_
 generalize hb:(iter (F_ev 0) 40 ((iter (F_ed 0) 40 (List.replicate 256 0,97)).getD [],48)).getD []=b2
 refine Ev.bind (QbI (step:=F_fk 0) 40 (b:=(iter (F_fk 0) 40 (b2,0)).getD []) (by subst hb;decide+kernel)) ?_
 refine Ev.bind (QbI (step:=F_fq 0) 40 (b:=classTab) (by subst hb;decide+kernel)) ?_
 exact Ev.const (by decide+kernel)
theorem QiR:((List.range 256).all fun i=> !okN i||decide (classTab[i]?=some (if okAN i then 2 else if i=95 then 0 else 3)))=true:=by decide+kernel
theorem Qks{c:UInt8}(h:okC c=true):Qd6 256 classTab (c.toNat:Int)=some (if okA c then 2 else if c.toNat=95 then 0 else 3):=by
 have h1:=List.all_eq_true.1 QiR c.toNat (List.mem_range.2 c.toNat_lt)
 unfold okC at h
 rw[h]at h1
 simp only[Bool.not_true,Bool.false_or,decide_eq_true_eq]at h1
 unfold Qd6
 rw[show Nat.beq classTab.length 256=true by decide+kernel,cond_true,Qbd h1]
 rfl
def goodS(s:List UInt8):Bool:=decide (1<=s.length)&&decide (s.length<=24)&&(s.head?).any okA&&s.all okC
def isNameS(s:List UInt8):Bool:=goodS s&& !kwL.contains s
theorem QiH(s:List UInt8)(h:goodS s=true):Ev (fun n=>F_ca n s) true:=by
 unfold goodS at h
 simp only[Bool.and_eq_true,decide_eq_true_eq,List.all_eq_true]at h
 obtain⟨⟨⟨h1,h2⟩,h3⟩,h4⟩:=h
 unfold F_ca
 refine Ev.bind Qhy ?_
 refine QaK (v:=List.replicate 256 0) (by decide+kernel) ?_
 refine QaK (v:=classTab) (by decide+kernel) ?_
 refine Ev.bind (v:=Ctl.cont ()) (Ev.iter (fun i=>(i:Int)) s.length rfl (fun i hi=>?_) ?_) ?_
 ·have ha:=YW (x:=s[i]) (by omega) (List.getElem?_eq_getElem hi)
  have hc:=h4 _ ha.mem
  unfold F_fg
  simp only[ha.lt,cond_true,ha.ix,Option.bind_some,Qks hc,ha.nx]
  cases i with
  |zero=>
   have:okA s[0]=true:=by
    cases s with
    |nil=>simp at h1
    |cons c r=>simpa using h3
   simp[this]
   exact Qa _
  |succ i=>
   by_cases q:okA s[i+1]=true
   ·simp[q];exact Qa _
   ·by_cases q2:s[i+1].toNat=95
    ·simp[q,q2]
     exact Qa _
    ·simp[q,q2];exact Qa _
 ·unfold F_fg
  simp only[Qdn,cond_false]
  exact Qa _
 ·refine Ev.const ?_
  cases s with
  |nil=>simp at h1
  |cons c r=>rfl
theorem QiE{s:List UInt8}(h:goodS s=true):∀c∈s,c≠32:=by
 unfold goodS at h
 simp only[Bool.and_eq_true,List.all_eq_true]at h
 rintro c hc rfl
 exact absurd (h.2 _ hc) (by decide)
theorem Qj2{s:List UInt8}(h:goodS s=true):s.length<=24:=by
 unfold goodS at h
 simp only[Bool.and_eq_true,decide_eq_true_eq]at h
 exact h.1.1.2
theorem Qhz(s:List UInt8)(h:goodS s=true):Ev (fun n=>F_bv n s) (kwL.contains s):=by
 unfold F_bv
 refine Ev.bind (v:=kwL.contains s) ?_ (Qa _)
 refine Ev.bind (QiH s h) (Qio ?_)
 have hl:=Qj2 h
 refine QaK (v:=[32]++s) (by unfold cat;rw[Nat.ble_eq_true_of_le (by simp;omega)];rfl) ?_
 refine QaK (v:=[32]++s++[32]) (by unfold cat;rw[Nat.ble_eq_true_of_le (by simp;omega)];rfl) ?_
 refine QaK (v:=kwL.contains s) ?_ (Qa _)
 show Qd8 wordsL ([32]++s++[32])=some (kwL.contains s)
 unfold Qd8
 rw[show Nat.blt wordsL.length 4294967281=true by decide+kernel,cond_true]
 rw[show[32]++s++[32]=32::(s++[32])by simp,Qbs s (QiE h),QmD]
theorem ch_lt(c:UInt8)(k:Nat):decide ((c.toNat:Int)<(k:Int))=decide (c.toNat<k):=by
 rw[Bool.eq_iff_iff];simp
theorem badC(c:UInt8):(bif decide ((c.toNat:Int)<97)then(bif decide ((c.toNat:Int)<48)then some ((c.toNat:Int) != 95)else(bif decide (57<(c.toNat:Int))then some ((c.toNat:Int) != 95)else some false))else(bif decide (122<(c.toNat:Int))then(bif decide ((c.toNat:Int)<48)then some ((c.toNat:Int) != 95)else(bif decide (57<(c.toNat:Int))then some ((c.toNat:Int) != 95)else some false))else some false))=some (!okC c):=by
 unfold okC okN
 generalize c.toNat=k
 have e:((k:Int) != 95)= !decide (k=95):=by
  by_cases h:k=95
  ·subst h;rfl
  ·rw[decide_eq_false h];simp;omega
 rw[e]
 by_cases h1:k<48
 ·rw[Yu (show(k:Int)<97 by omega),Yu (show(k:Int)<48 by omega)]
  have a1:¬97<=k:=by omega
  have a2:¬48<=k:=by omega
  simp[a1,a2]
 ·rw[Yy (show¬(k:Int)<48 by omega)]
  by_cases h2:k<=57
  ·rw[Yu (show(k:Int)<97 by omega),Yy (show¬57<(k:Int)by omega)]
   have a1:48<=k:=by omega
   simp[a1,h2]
  ·rw[Yu (show 57<(k:Int)by omega)]
   by_cases h3:k<97
   ·rw[Yu (show(k:Int)<97 by omega)]
    have a1:¬97<=k:=by omega
    simp[a1,h2]
   ·rw[Yy (show¬(k:Int)<97 by omega)]
    by_cases h4:k<=122
    ·rw[Yy (show¬122<(k:Int)by omega)]
     have a1:97<=k:=by omega
     simp[a1,h4]
    ·rw[Yu (show 122<(k:Int)by omega)]
     simp[h2,h4]
theorem QiA(n:Nat)(s:List UInt8):(bif decide ((s.length:Int)<1)then some true else(bif decide (24<(s.length:Int))then some true else(idx s 0).bind fun x10=>(bif decide ((x10.toNat:Int)<97)then some true else(idx s 0).bind fun x12=>some (decide (122<(x12.toNat:Int))))))=some (!(decide (1<=s.length)&&decide (s.length<=24)&&(s.head?).any okA)):=by
 cases s with
 |nil=>rfl
 |cons c r=>
  rw[Yy (show¬((c::r).length:Int)<1 by simp;omega),cond_false]
  by_cases h:(c::r).length<=24
  ·rw[Yy (show¬24<((c::r).length:Int)by omega),cond_false]
   have e0:idx (c::r) 0=some c:=rfl
   simp only[e0,Option.bind_some]
   simp only[List.length_cons]at h
   have h':r.length<=23:=by omega
   simp only[List.head?_cons,Option.any_some,okA,okAN]
   rw[show(97:Int)=((97:Nat):Int)from rfl,ch_lt]
   by_cases h1:c.toNat<97
   ·have:¬97<=c.toNat:=by omega
    simp[h1,this]
   ·have a1:97<=c.toNat:=by omega
    simp[h1,a1,h']
    by_cases q:c.toNat<=122
    ·rw[Yy (show¬122<(c.toNat:Int)by omega),Yu q];rfl
    ·rw[Yu (show 122<(c.toNat:Int)by omega),Yy q];rfl
  ·rw[Yu (show 24<((c::r).length:Int)by omega),cond_true]
   simp only[List.length_cons]at h
   have h':¬r.length<=23:=by omega
   simp[h']
theorem Qe3(s:List UInt8)(hl:s.length<=1048576):Ev (fun n=>F_d n s) (isNameS s):=by
 unfold F_d
 refine Ev.bind (Ev.const (QiA 0 s)) ?_
 unfold isNameS
 cases hh:(decide (1<=s.length)&&decide (s.length<=24)&&(s.head?).any okA)with
 |false=>
  simp only[Bool.not_false,cond_true]
  have:goodS s=false:=by unfold goodS;rw[hh];rfl
  rw[this]
  exact Qa _
 |true=>
  simp only[Bool.not_true,cond_false]
  have hg:goodS s=s.all okC:=by unfold goodS;rw[hh];rfl
  refine Ev.bind (Qbw s (fun c=> !okC c) (fun i=>(i:Int)) (Ctl.done false) (Ctl.cont ()) (by omega) rfl (fun i x ha hq=>?_) (fun i x ha hq=>?_) ?_) ?_
  ·unfold F_fe
   simp only[ha.lt,cond_true,ha.ix,Option.bind_some,badC,hq,cond_false,ha.nx]
   exact Qa _
  ·unfold F_fe
   simp only[ha.lt,cond_true,ha.ix,Option.bind_some,badC,hq]
   exact Qa _
  ·unfold F_fe
   simp only[Qdn,cond_false]
   exact Qa _
  ·rw[hg]
   have e:s.any (fun c=> !okC c)= !s.all okC:=by rw[List.not_all_eq_any_not]
   rw[e]
   cases q:s.all okC with
   |true=>
    simp only[Bool.not_true,cond_false,Bool.true_and]
    exact Ev.bind (Qhz s (hg.trans q)) (Qa _)
   |false=>
    simp only[Bool.not_false,cond_true,Bool.false_and]
    exact Qa _
def diffS:List (List UInt8)->List (List UInt8)->Bool
 |_,[]=>true
 |seen,x::r=>isNameS x&& !seen.contains x&&diffS (seen++[x]) r
theorem QhC(l:List (List UInt8))(i:Nat)(x:List UInt8)(h:At l i x):diffS (l.take i) (l.drop i)=(isNameS x&& !(l.take i).contains x&&diffS (l.take (i+1)) (l.drop (i+1))):=by
 rw[h.drop,h.take];rfl
theorem Qbr{α:Type}(l:List α)(nm:α->List UInt8)(g:Nat->α->Option Unit)(hg:∀n x,g n x=some ())(hl:l.length<=1048576)(hn:∀x∈l,(nm x).length<=1048576):
  Ev (fun n=>((iter (fun s:(List (List UInt8×Bool))×Int=>bif decide (s.2<(l.length:Int))then(idx l s.2).bind fun x35=>(g n x35).bind fun r36=>((F_d n (nm x35)).bind fun r42=>(bif (!r42)then some true else(some (QR s.1 (nm x35) false)).bind fun v44=>some v44):Option Bool).bind fun b40=>(bif b40 then some (.done (.done false))else(some (Q8 s.1 (nm x35) true)).bind fun m46=>some (.cont (m46,IntKind.i64.wrap (s.2+1))))else some (.done (.cont ()))) n ([],0):Option (Ctl Unit Bool)).bind fun b28=>
   match b28 with
   |.cont _=>some true
   |.done s=>some s:Option Bool)) (diffS [] (l.map nm)):=by
 have hl':l.length<=4611686018427387904:=by omega
 have hml:(l.map nm).length<=4611686018427387904:=by simpa using hl'
 have key:=QfU (B:=Ctl Unit Bool) l (step:=fun n s=>bif decide (s.2<(l.length:Int))then(idx l s.2).bind fun x35=>(g n x35).bind fun r36=>((F_d n (nm x35)).bind fun r42=>(bif (!r42)then some true else(some (QR s.1 (nm x35) false)).bind fun v44=>some v44):Option Bool).bind fun b40=>(bif b40 then some (.done (.done false))else(some (Q8 s.1 (nm x35) true)).bind fun m46=>some (.cont (m46,IntKind.i64.wrap (s.2+1))))else some (.done (.cont ())))
  (s0:=(([]:List (List UInt8×Bool)),(0:Int))) (fun i=>(QW nm true (l.take i),(i:Int))) (fun i=>bif diffS ((l.map nm).take i) ((l.map nm).drop i)then .cont ()else .done false) hl' rfl (fun i x ha=>?_) ?_
 ·refine Ev.bind key ?_
  simp only[List.take_zero,List.drop_zero]
  cases diffS [] (l.map nm)<;>exact Qa _
 ·have ha2:At (l.map nm) i (nm x):=YW hml (by rw[List.getElem?_map,ha.get];rfl)
  simp only[QhC _ _ _ ha2]
  have hev:Ev (fun n=>((F_d n (nm x)).bind fun r42=>(bif (!r42)then some true else(some (QR (QW nm true (l.take i)) (nm x) false)).bind fun v44=>some v44):Option Bool)) (!(isNameS (nm x)&& !((l.map nm).take i).contains (nm x))):=by
   refine Ev.bind (Qe3 (nm x) (hn x ha.mem)) ?_
   cases isNameS (nm x)with
   |false=>exact Qa _
   |true=>
    refine Ev.ff ((Qa _).eq ?_)
    rw[Qc4,List.map_take]
    by_cases h:nm x∈(l.map nm).take i
    ·rw[if_pos h];simp[h]
    ·rw[if_neg h];simp[h]
  cases hc:(isNameS (nm x)&& !((l.map nm).take i).contains (nm x))with
  |true=>
   rw[hc]at hev
   refine .inl ⟨?_,by simp⟩
   simp only[ha.lt,cond_true,ha.ix,Option.bind_some,hg]
   refine Ev.bind hev ?_
   simp only[Bool.not_true,cond_false,Option.bind_some,ha.nx]
   rw[ha.take,Qfw]
   exact Qa _
  |false=>
   rw[hc]at hev
   refine .inr ?_
   simp only[ha.lt,cond_true,ha.ix,Option.bind_some,hg]
   refine Ev.bind hev ?_
   simp only[Bool.not_false,cond_true,Bool.false_and,cond_false]
   exact Qa _
 ·simp only[Qdn,cond_false]
  rw[show(l.map nm).drop l.length=[]by apply List.drop_eq_nil_of_le;simp]
  exact Qa _
theorem QmN{α:Type}{l:List α}{x:α}(h:l.length<=140737488):app l [x]=some (l++[x]):=QbD l x (by omega)
theorem Qe5{α β:Type}(l:List α)(f:α->β)(hl:l.length<=140737488):Ev (fun n=>iter (fun s:(List β)×Int=>bif decide (s.2<(l.length:Int))then(idx l s.2).bind fun x15=>(app s.1 [f x15]).bind fun l16=>some (Ctl.cont (l16,IntKind.i64.wrap (s.2+1)))else some (Ctl.done s.1)) n (([]:List β),(0:Int))) (l.map f):=by
 have e:∀l:List α,l.foldl (fun(a:List β) x=>a++[f x]) []=l.map f:=by
  intro l
  have gen:∀(l:List α) (a:List β),l.foldl (fun(a:List β) x=>a++[f x]) a=a++l.map f:=by
   intro l
   induction l with
   |nil=>intro a;simp
   |cons x l ih=>intro a;rw[List.foldl_cons,ih];simp
  simpa using gen l []
 rw[<- e l]
 refine Qbj l (fun(a:List β) x=>a++[f x]) [] (fun a i=>(a,(i:Int))) (fun a=>a) (by omega) rfl (fun i x a ha haa=>?_) ?_
 ·rw[e]at haa
  have:a.length<=140737488:=by rw[haa];simp;omega
  simp only[ha.lt,cond_true,ha.ix,Option.bind_some,QmN this,ha.nx]
  exact Qa _
 ·simp only[Qdn,cond_false]
  exact Qa _
def namesS(c:Course):Bool:=isNameS c.Name&&(diffS [] (c.Mats.map (·.Name))&&(diffS [] (c.Distances.map (·.Name))&&(diffS [] (c.Waves.map (·.Name))&&(diffS [] (c.Offences.map (·.Name))&&diffS [] (c.Categories.map (·.Name))))))
structure CourseOk (c:Course):Prop where
 name:c.Name.length<=1048576
 mats:c.Mats.length<=1048576
 matsN:∀x∈c.Mats,x.Name.length<=1048576
 legs:c.Legs.length<=1048576
 dist:c.Distances.length<=1048576
 distN:∀x∈c.Distances,x.Name.length<=1048576
 cut:∀x∈c.Distances,x.Cutoffs.length<=1048576
 wave:c.Waves.length<=1048576
 waveN:∀x∈c.Waves,x.Name.length<=1048576
 off:c.Offences.length<=1048576
 offN:∀x∈c.Offences,x.Name.length<=1048576
 cat:c.Categories.length<=1048576
 catN:∀x∈c.Categories,x.Name.length<=1048576
 prize:c.Prizes.length<=1048576
theorem Qkd(c:Course)(w:CourseOk c):Ev (fun n=>F_cc n c) (namesS c):=by
 unfold F_cc namesS
 refine Ev.bind (v:=_) ?_ (Qa _)
 refine Ev.bind (Qe3 c.Name w.name) (Ev.and fun _=>?_)
 have h1:Ev (fun n=>F_ak n c.Mats) (diffS [] (c.Mats.map (·.Name))):=by unfold F_ak;exact Qbr c.Mats (·.Name) F_el (fun _ _=>rfl) w.mats w.matsN
 have h2:Ev (fun n=>F_ao n c.Distances) (diffS [] (c.Distances.map (·.Name))):=by unfold F_ao;exact Qbr c.Distances (·.Name) F_dq (fun _ _=>rfl) w.dist w.distN
 have h3:Ev (fun n=>F_bt n c.Waves) (diffS [] (c.Waves.map (·.Name))):=by unfold F_bt;exact Qbr c.Waves (·.Name) F_ei (fun _ _=>rfl) w.wave w.waveN
 have h4:Ev (fun n=>F_cj n c.Offences) (diffS [] (c.Offences.map (·.Name))):=by unfold F_cj;exact Qbr c.Offences (·.Name) F_dj (fun _ _=>rfl) w.off w.offN
 have h5:Ev (fun n=>F_av n c.Categories) (diffS [] (c.Categories.map (·.Name))):=by unfold F_av;exact Qbr c.Categories (·.Name) F_cv (fun _ _=>rfl) w.cat w.catN
 refine Ev.bind h1 (Ev.and fun _=>?_)
 refine Ev.bind h2 (Ev.and fun _=>?_)
 refine Ev.bind h3 (Ev.and fun _=>?_)
 refine Ev.bind h4 (Ev.and fun _=>?_)
 exact Ev.bind h5 (Qa _)
theorem Qb4{n:Nat}(h:n<=1048576):IntKind.i64.wrap ((n:Int)-1)=(n:Int)-1:=Q0 (by omega) (by omega)
mutual
def szP:Part->Nat
 |⟨_,_,ps⟩=>1+szPs ps
def szPs:List Part->Nat
 |[]=>0
 |p::r=>szP p+szPs r
end
theorem Qab(p:Part):szP p=1+szPs p.Parts:=by cases p;rfl
theorem QaC{p:Part}:∀{l:List Part},p∈l->szP p<=szPs l
 |q::r,h=>by
  simp only[szPs]
  rcases List.mem_cons.1 h with rfl|h
  ·omega
  ·have:=QaC h;omega
mutual
def partS(k:Int):Part->Bool
 |⟨m,laps,ps⟩=>bif laps==0 then inR 0 k m&&((ps.length:Int)==0)else inR 1 64 laps&&((m==0)&&(decide (0<(ps.length:Int))&&partsS k ps))
def partsS(k:Int):List Part->Bool
 |[]=>true
 |p::r=>partS k p&&partsS k r
end
theorem QdU(k:Int)(p:Part):partS k p=bif p.Laps==0 then inR 0 k p.Mat&&((p.Parts.length:Int)==0)else inR 1 64 p.Laps&&((p.Mat==0)&&(decide (0<(p.Parts.length:Int))&&partsS k p.Parts)):=by cases p;rfl
theorem QcJ(k:Int):∀l:List Part,partsS k l=l.all (partS k)
 |[]=>rfl
 |p::r=>by simp only[partsS,List.all_cons,QcJ k r]
theorem YL{p:Part}(h:Part.wf p):p.Parts.length<=1048576/\ ∀x∈p.Parts,Part.wf x:=by
 cases p
 simp only[Part.wf,Qcv]at h
 exact h.2.2.1
theorem Qq(lo hi x:Int):Ev (fun n=>F_a n lo hi [x]) (inR lo hi x):=(Qe0 lo hi [x] (by simp)).eq (by simp)
theorem QaF(lo hi x y:Int):Ev (fun n=>F_a n lo hi [x,y]) (inR lo hi x&&inR lo hi y):=(Qe0 lo hi [x,y] (by simp)).eq (by simp)
theorem Qkc(k:Int):∀(m:Nat) (l:List Part),szPs l<=m->l.length<=1048576->(∀x∈l,Part.wf x)->Ev (fun n=>F_e n l k) (partsS k l):=by
 intro m
 induction m with
 |zero=>
  intro l hm hl hw
  cases l with
  |nil=>
   refine Qae ?_
   show Ev (fun n=>B_e (F_e n) n [] k) _
   unfold B_e F_cd F_bx
   exact YQ [] (partS k) (fun n x=>F_ad (F_e n) n x k) (by simp) (by simp)
  |cons p r=>
   exfalso
   simp only[szPs,Qab]at hm
   omega
 |succ m ih=>
  intro l hm hl hw
  refine Qae ?_
  show Ev (fun n=>B_e (F_e n) n l k) _
  unfold B_e F_cd F_bx
  rw[QcJ]
  refine YQ l (partS k) (fun n x=>F_ad (F_e n) n x k) (by omega) fun p hp=>?_
  unfold F_ad
  rw[QdU]
  have h1:=QaC hp
  rw[Qab]at h1
  obtain⟨w1,w2⟩:=YL (hw p hp)
  refine Qbx (fun _=>?_) (fun _=>?_)
  ·exact Ev.bind (Ev.bind (Qq _ _ _) (Ev.and fun _=>Qa _)) (Qa _)
  ·exact Ev.bind (Ev.bind (Qq _ _ _) (Ev.and fun _=>Ev.and fun _=>Ev.and fun _=>Ev.bind (ih p.Parts (by omega) w1 w2) (Qa _))) (Qa _)
def legS(k:Int)(l:Leg):Bool:=(inR 0 k l.From&&inR 0 k l.To)&&((inR 0 68719476736 l.Min&&inR 0 68719476736 l.Max)&&decide (l.Min<=l.Max))
def cutS(k:Int)(x:Cutoff):Bool:=inR 0 k x.Mat&&(decide (1<=x.Lap)&&inR 0 1099511627776 x.Limit)
def distS(k:Int)(d:Distance):Bool:=inR 1 3 d.Timing&&(inR (-1) k d.Extra&&(partsS k d.Route&&d.Cutoffs.all (cutS k)))
def offS(o:Offence):Bool:=bif o.Out then(o.Time==0)&&(o.Laps==0)else bif o.Laps != 0 then(o.Time==0)&&inR 1 64 o.Laps else inR 0 68719476736 o.Time
def catS(x:Category):Bool:=(inR 0 120 x.From&&inR 0 120 x.To)&&decide (x.From<=x.To)
def prizeS(c:Course)(p:Prize):Bool:=inR 0 ((c.Distances.length:Int)-1) p.Distance&&(inR (-1) ((c.Categories.length:Int)-1) p.Category&&(inR 1 4000 p.Rank&&inR 1 1125899906842624 p.Amount))
def lastS(c:Course):Bool:=(inR 0 16 c.Faults.Misses&&inR 0 16 c.Faults.Strays)&&((inR 0 4294967296 c.Faults.Window&&inR 0 4294967296 c.Faults.Residual)&&(inR 0 100000 c.Faults.Drift&&(inR 0 1125899906842624 c.Fee&&inR 0 1099511627776 c.Deadline)))
def legKey(l:Leg):typing_ends:={from_:=l.From,to_:=l.To}
def prizeKey(p:Prize):typing_place:={distance:=p.Distance,category:=p.Category,rank:=p.Rank}
def numbersS(c:Course):Bool:=
 let k:=(c.Mats.length:Int)-1
 c.Mats.all (fun m=>inR 1 3 m.Kind)&&(c.Legs.all (legS k)&&(decide ((c.Legs.map legKey).Nodup)&&(c.Distances.all (distS k)&&(c.Waves.all (fun w=>inR 0 1099511627776 w.Gun)&&(c.Offences.all offS&&(c.Categories.all catS&&(c.Prizes.all (prizeS c)&&(decide ((c.Prizes.map prizeKey).Nodup)&&lastS c))))))))
structure PartsOk (c:Course):Prop where
 len:∀d∈c.Distances,d.Route.length<=1048576
 wf:∀d∈c.Distances,∀x∈d.Route,Part.wf x
theorem QfE(l:List Leg)(hl:l.length<=1048576):Ev (fun n=>F_bn n l) (decide ((l.map legKey).Nodup)):=by
 unfold F_bn
 refine Ev.bind (Qbk l legKey true (by omega) (fun i x m ha=>?_) (fun m=>?_)) ((Qa _).eq ?_)
 ·unfold F_fi F_ej
  simp only[ha.lt,cond_true,ha.ix,Option.bind_some,ha.nx]
  exact Qa _
 ·unfold F_fi
  simp only[Qdn,cond_false]
  exact Qa _
 ·rw[Bool.eq_iff_iff]
  simp only[beq_iff_eq,decide_eq_true_eq]
  have:=QbO legKey true l
  rw[<- this.2]
  omega
theorem Qek(l:List Prize)(hl:l.length<=1048576):Ev (fun n=>F_be n l) (decide ((l.map prizeKey).Nodup)):=by
 unfold F_be
 refine Ev.bind (Qbk l prizeKey true (by omega) (fun i x m ha=>?_) (fun m=>?_)) ((Qa _).eq ?_)
 ·unfold F_fl F_dr
  simp only[ha.lt,cond_true,ha.ix,Option.bind_some,ha.nx]
  exact Qa _
 ·unfold F_fl
  simp only[Qdn,cond_false]
  exact Qa _
 ·rw[Bool.eq_iff_iff]
  simp only[beq_iff_eq,decide_eq_true_eq]
  have:=QbO prizeKey true l
  rw[<- this.2]
  omega
theorem Qht(c:Course)(w:CourseOk c)(q:PartsOk c):Ev (fun n=>F_cg n c) (numbersS c):=by
 unfold F_cg numbersS
 rw[Qb4 w.mats]
 refine Ev.bind (v:=_) ?_ (Qa _)
 have h1:Ev (fun n=>F_ar n c.Mats) (c.Mats.all fun m=>inR 1 3 m.Kind):=by
  unfold F_ar F_dk F_dn
  refine YQ c.Mats _ (fun n x=>F_bm n x) (by have:=w.mats;omega) fun x hx=>?_
  unfold F_bm
  exact Ev.bind (Qq _ _ _) (Qa _)
 have h2:Ev (fun n=>F_ba n c.Legs ((c.Mats.length:Int)-1)) (c.Legs.all (legS ((c.Mats.length:Int)-1))):=by
  unfold F_ba F_eg F_em
  refine YQ c.Legs _ (fun n x=>F_bp n x _) (by have:=w.legs;omega) fun x hx=>?_
  unfold F_bp
  exact Ev.bind (Ev.bind (QaF _ _ _ _) (Ev.and fun _=>Ev.bind (QaF _ _ _ _) (Ev.and fun _=>Qa _))) (Qa _)
 have h4:Ev (fun n=>F_bh n c.Distances ((c.Mats.length:Int)-1)) (c.Distances.all (distS ((c.Mats.length:Int)-1))):=by
  unfold F_bh F_dy F_db
  refine YQ c.Distances _ (fun n x=>F_ai n x _) (by have:=w.dist;omega) fun x hx=>?_
  unfold F_ai
  have hc:Ev (fun n=>F_ah n x.Cutoffs ((c.Mats.length:Int)-1)) (x.Cutoffs.all (cutS ((c.Mats.length:Int)-1))):=by
   unfold F_ah F_ec F_dc
   refine YQ x.Cutoffs _ (fun n x=>F_bb n x _) (by have:=w.cut x hx;omega) fun y hy=>?_
   unfold F_bb
   exact Ev.bind (Ev.bind (Qq _ _ _) (Ev.and fun _=>Ev.and fun _=>Ev.bind (Qq _ _ _) (Qa _))) (Qa _)
  exact Ev.bind (Ev.bind (Qq _ _ _) (Ev.and fun _=>Ev.bind (Qq _ _ _) (Ev.and fun _=>Ev.bind (Qkc _ _ x.Route (Nat.le_refl _) (q.len x hx) (q.wf x hx)) (Ev.and fun _=>Ev.bind hc (Qa _))))) (Qa _)
 have h5:Ev (fun n=>F_af n c.Waves) (c.Waves.all fun w=>inR 0 1099511627776 w.Gun):=by
  unfold F_af F_dt F_ee
  refine YQ c.Waves _ (fun n x=>F_ag n x) (by have:=w.wave;omega) fun x hx=>?_
  unfold F_ag
  exact Ev.bind (Qq _ _ _) (Qa _)
 have h6:Ev (fun n=>F_ce n c.Offences) (c.Offences.all offS):=by
  unfold F_ce F_dm F_ds
  refine YQ c.Offences _ (fun n x=>F_bs n x) (by have:=w.off;omega) fun x hx=>?_
  unfold F_bs offS
  refine Qbx (fun _=>Ev.bind (Ev.and fun _=>Qa _) (Qa _)) fun _=>Qbx (fun _=>Ev.bind (Ev.and fun _=>Ev.bind (Qq _ _ _) (Qa _)) (Qa _)) fun _=>Ev.bind (Qq _ _ _) (Qa _)
 have h7:Ev (fun n=>F_bg n c.Categories) (c.Categories.all catS):=by
  unfold F_bg F_cz F_cm
  refine YQ c.Categories _ (fun n x=>F_bd n x) (by have:=w.cat;omega) fun x hx=>?_
  unfold F_bd
  exact Ev.bind (Ev.bind (QaF _ _ _ _) (Ev.and fun _=>Qa _)) (Qa _)
 have h8:Ev (fun n=>F_bl n c.Prizes c) (c.Prizes.all (prizeS c)):=by
  unfold F_bl F_ep F_dp
  refine YQ c.Prizes _ (fun n x=>F_bf n x c) (by have:=w.prize;omega) fun x hx=>?_
  unfold F_bf
  rw[Qb4 w.dist,Qb4 w.cat]
  exact Ev.bind (Ev.bind (Qq _ _ _) (Ev.and fun _=>Ev.bind (Qq _ _ _) (Ev.and fun _=>Ev.bind (Qq _ _ _) (Ev.and fun _=>Ev.bind (Qq _ _ _) (Qa _))))) (Qa _)
 refine Ev.bind h1 (Ev.and fun _=>Ev.bind h2 (Ev.and fun _=>Ev.bind (QfE _ w.legs) (Ev.and fun _=>Ev.bind h4 (Ev.and fun _=>Ev.bind h5 (Ev.and fun _=>Ev.bind h6 (Ev.and fun _=>Ev.bind h7 (Ev.and fun _=>Ev.bind h8 (Ev.and fun _=>Ev.bind (Qek _ w.prize) (Ev.and fun _=>?_)))))))))
 exact Ev.bind (QaF _ _ _ _) (Ev.and fun _=>Ev.bind (QaF _ _ _ _) (Ev.and fun _=>Ev.bind (Qq _ _ _) (Ev.and fun _=>Ev.bind (Qq _ _ _) (Ev.and fun _=>Ev.bind (Qq _ _ _) (Qa _)))))
theorem ends_eq{a b a' b':Int}:(({from_:=a,to_:=b}:typing_ends)={from_:=a',to_:=b'})↔a=a'/\b=b':=by simp
theorem Qjd{α B:Type}{step:Nat->Int->Option (Ctl Int B)}(l:List α)(ok:α->Bool)(bx b:B)(hl:l.length<=4611686018427387904)
  (hs:∀i x,At l i x->Ev (fun n=>step n (i:Int)) (bif ok x then .cont ((i+1:Nat):Int)else .done bx))(hd:Ev (fun n=>step n (l.length:Int)) (.done b)):
  Ev (fun n=>Go.Sw.iter (step n) n 0) (bif l.all ok then b else bx):=by
 have e:(bif l.all ok then b else bx)=bif l.any (fun x=> !ok x)then bx else b:=by
  rw[<- List.not_all_eq_any_not]
  cases l.all ok<;>rfl
 rw[e]
 refine Qbw l (fun x=> !ok x) (fun i=>(i:Int)) bx b hl rfl (fun i x ha hq=>?_) (fun i x ha hq=>?_) hd
 ·have h:ok x=true:=by simpa using hq
  have:=hs i x ha
  rwa [h]at this
 ·have h:ok x=false:=by simpa using hq
  have:=hs i x ha
  rwa [h]at this
mutual
def cN:Cond->Nat
 |⟨_,_,_,ps⟩=>1+cNs ps
def cNs:List Cond->Nat
 |[]=>0
 |c::r=>cN c+cNs r
end
theorem Qcl(c:Cond):cN c=1+cNs c.Parts:=by cases c;rfl
mutual
def cD:Nat->Cond->Bool
 |d,⟨_,_,_,ps⟩=>cDs d ps
def cDs:Nat->List Cond->Bool
 |_,[]=>true
 |d,c::r=>decide (d<=16)&&(cD (d+1) c&&cDs d r)
end
theorem Qkt(d:Nat)(c:Cond):cD d c=cDs d c.Parts:=by cases c;rfl
def zeroC(c:Cond):Bool:=(c.Kind==0)&&((c.Var==0)&&((c.N==0)&&((c.Parts.length:Int)==0)))
mutual
def sNp:Step->Nat
 |⟨_,_,_,t,e⟩=>1+sNs t+sNs e
def sNs:List Step->Nat
 |[]=>0
 |s::r=>sNp s+sNs r
end
theorem QeO(s:Step):sNp s=1+sNs s.Then+sNs s.Else:=by cases s;rfl
mutual
def sC:Step->Nat
 |⟨_,_,c,t,e⟩=>(bif zeroC c then 0 else cN c)+sCs t+sCs e
def sCs:List Step->Nat
 |[]=>0
 |s::r=>sC s+sCs r
end
theorem QeP(s:Step):sC s=(bif zeroC s.Cond then 0 else cN s.Cond)+sCs s.Then+sCs s.Else:=by cases s;rfl
mutual
def sDp:Nat->Step->Bool
 |d,⟨_,_,c,t,e⟩=>(zeroC c||cD 1 c)&&(sDs d t&&sDs d e)
def sDs:Nat->List Step->Bool
 |_,[]=>true
 |d,s::r=>decide (d<=16)&&(sDp (d+1) s&&sDs d r)
end
theorem Qh3(d:Nat)(s:Step):sDp d s=((zeroC s.Cond||cD 1 s.Cond)&&(sDs d s.Then&&sDs d s.Else)):=by cases s;rfl
mutual
def sZ:Step->Nat
 |⟨_,_,c,t,e⟩=>2+cN c+sZs t+sZs e
def sZs:List Step->Nat
 |[]=>0
 |s::r=>sZ s+sZs r
end
theorem Qf5(s:Step):sZ s=2+cN s.Cond+sZs s.Then+sZs s.Else:=by cases s;rfl
def fS:typing_form->Nat
 |.ctyping_step x=>sNp x.Step
 |.ctyping_cond _=>0
def fC:typing_form->Nat
 |.ctyping_step x=>sC x.Step
 |.ctyping_cond x=>cN x.Cond
def fD(d:Nat):typing_form->Bool
 |.ctyping_step x=>sDp d x.Step
 |.ctyping_cond x=>cD d x.Cond
def fZ:typing_form->Nat
 |.ctyping_step x=>sZ x.Step
 |.ctyping_cond x=>cN x.Cond
def fSs(l:List typing_form):Nat:=(l.map fS).sum
def fCs(l:List typing_form):Nat:=(l.map fC).sum
def fZs(l:List typing_form):Nat:=(l.map fZ).sum
def fwf:typing_form->Prop
 |.ctyping_step x=>Step.wf x.Step
 |.ctyping_cond x=>Cond.wf x.Cond
def ofStep(s:Step):typing_form:=.ctyping_step {Step:=s}
def ofCond(c:Cond):typing_form:=.ctyping_cond {Cond:=c}
theorem QaX:∀l:List Step,fSs (l.map ofStep)=sNs l
 |[]=>rfl
 |s::r=>by
  have:=QaX r
  simp only[fSs,List.map_cons,List.sum_cons]at this⊢
  rw[this];rfl
theorem QaY:∀l:List Step,fCs (l.map ofStep)=sCs l
 |[]=>rfl
 |s::r=>by
  have:=QaY r
  simp only[fCs,List.map_cons,List.sum_cons]at this⊢
  rw[this];rfl
theorem Qbq:∀l:List Step,fZs (l.map ofStep)=sZs l
 |[]=>rfl
 |s::r=>by
  have:=Qbq r
  simp only[fZs,List.map_cons,List.sum_cons]at this⊢
  rw[this];rfl
theorem Qeg:∀l:List Cond,fSs (l.map ofCond)=0
 |[]=>rfl
 |s::r=>by
  have:=Qeg r
  simp only[fSs,List.map_cons,List.sum_cons]at this⊢
  rw[this];rfl
theorem Qei:∀l:List Cond,fCs (l.map ofCond)=cNs l
 |[]=>rfl
 |s::r=>by
  have:=Qei r
  simp only[fCs,List.map_cons,List.sum_cons]at this⊢
  rw[this];rfl
theorem Qee:∀l:List Cond,fZs (l.map ofCond)=cNs l
 |[]=>rfl
 |s::r=>by
  have:=Qee r
  simp only[fZs,List.map_cons,List.sum_cons]at this⊢
  rw[this];rfl
theorem Qci(d:Nat):∀l:List Step,sDs d l=((l.map ofStep).isEmpty||(decide (d<=16)&&(l.map ofStep).all (fD (d+1))))
 |[]=>rfl
 |s::r=>by
  rw[sDs,Qci d r]
  simp only[List.map_cons,List.isEmpty_cons,Bool.false_or,List.all_cons]
  rw[show fD (d+1) (ofStep s)=sDp (d+1) s from rfl]
  cases r with
  |nil=>simp
  |cons x r=>
   simp only[List.map_cons,List.isEmpty_cons,Bool.false_or,List.all_cons]
   cases decide (d<=16)<;>simp
theorem Qgy(d:Nat):∀l:List Cond,cDs d l=((l.map ofCond).isEmpty||(decide (d<=16)&&(l.map ofCond).all (fD (d+1))))
 |[]=>rfl
 |s::r=>by
  rw[cDs,Qgy d r]
  simp only[List.map_cons,List.isEmpty_cons,Bool.false_or,List.all_cons]
  rw[show fD (d+1) (ofCond s)=cD (d+1) s from rfl]
  cases r with
  |nil=>simp
  |cons x r=>
   simp only[List.map_cons,List.isEmpty_cons,Bool.false_or,List.all_cons]
   cases decide (d<=16)<;>simp
theorem Qaf{c:Cond}(h:Cond.wf c):c.Parts.length<=1048576/\ ∀x∈c.Parts,Cond.wf x:=by
 cases c
 simp only[Cond.wf,QcC]at h
 exact h.2.2.2.1
theorem Qad{s:Step}(h:Step.wf s):Cond.wf s.Cond/\(s.Then.length<=1048576/\ ∀x∈s.Then,Step.wf x)/\(s.Else.length<=1048576/\ ∀x∈s.Else,Step.wf x):=by
 cases s
 simp only[Step.wf,Qcp]at h
 exact⟨h.2.2.1,h.2.2.2.1,h.2.2.2.2.1⟩
theorem Qe2(n:Nat)(c:Cond):F_v n {Cond:=c}=some (zeroC c):=by
 unfold F_v zeroC
 cases(c.Kind==0)<;>cases(c.Var==0)<;>cases(c.N==0)<;>rfl
theorem Qhs(n:Nat)(c:Cond):F_bk n c=some (zeroC c):=by
 unfold F_bk zeroC
 cases(c.Kind==0)<;>cases(c.Var==0)<;>cases(c.N==0)<;>rfl
theorem Qej(l:List Step)(hl:l.length<=140737488):Ev (fun n=>F_t n l) (l.map ofStep):=by
 unfold F_t
 exact Ev.bind (Qe5 l ofStep hl) (Qa _)
theorem Qkh(l:List Cond)(hl:l.length<=140737488):Ev (fun n=>F_aj n l) (l.map ofCond):=by
 unfold F_aj
 exact Ev.bind (Qe5 l ofCond hl) (Qa _)
def stepParts(s:Step):List typing_form:=s.Then.map ofStep++s.Else.map ofStep
theorem Qbf(s:Step)(h:Step.wf s):Ev (fun n=>F_q n {Step:=s}) (stepParts s):=by
 obtain⟨_,⟨h1,_⟩,⟨h2,_⟩⟩:=Qad h
 unfold F_q stepParts
 refine Ev.bind (Qej s.Then (by omega)) (Ev.bind (Qej s.Else (by omega)) (QaK (QgM _ _ (by simp;omega)) (Qa _)))
theorem Qcj(c:Cond)(h:Cond.wf c):Ev (fun n=>F_n n {Cond:=c}) (c.Parts.map ofCond):=by
 obtain⟨h1,_⟩:=Qaf h
 unfold F_n
 exact Ev.bind (Qkh c.Parts (by omega)) (Qa _)
def okL(l:List typing_form)(d:Nat)(st co:Int):Bool:=l.isEmpty||(decide (d<=16)&&(l.all (fD (d+1))&&(decide (st+fSs l<=64)&&decide (co+fCs l<=256))))
def okR(l:List typing_form)(d:Nat)(st co:Int):Bool:=l.isEmpty||(l.all (fD (d+1))&&(decide (st+fSs l<=64)&&decide (co+fCs l<=256)))
def okF(f:typing_form)(d:Nat)(st co:Int):Bool:=fD (d+1) f&&(decide (st+fS f<=64)&&decide (co+fC f<=256))
theorem Qgx(f:typing_form)(l:List typing_form):fSs (f::l)=fS f+fSs l:=rfl
theorem Qgz(f:typing_form)(l:List typing_form):fCs (f::l)=fC f+fCs l:=rfl
theorem Qgw(f:typing_form)(l:List typing_form):fZs (f::l)=fZ f+fZs l:=rfl
theorem Qef(l m:List typing_form):fSs (l++m)=fSs l+fSs m:=by simp[fSs]
theorem Qeh(l m:List typing_form):fCs (l++m)=fCs l+fCs m:=by simp[fCs]
theorem Qed(l m:List typing_form):fZs (l++m)=fZs l+fZs m:=by simp[fZs]
theorem QjL(f:typing_form)(r:List typing_form)(d:Nat)(st co:Int):okR (f::r) d st co=(okF f d st co&&okR r d (st+fS f) (co+fC f)):=by
 unfold okR okF
 rw[Qgx,Qgz]
 cases r with
 |nil=>simp[fSs,fCs]
 |cons g r=>
  rw[Bool.eq_iff_iff]
  simp only[List.isEmpty_cons,Bool.false_or,List.all_cons,Bool.and_eq_true,decide_eq_true_eq]
  rw[show((fS f+fSs (g::r):Nat):Int)=(fS f:Int)+(fSs (g::r):Int)by omega,show((fC f+fCs (g::r):Nat):Int)=(fC f:Int)+(fCs (g::r):Int)by omega]
  constructor
  ·rintro⟨⟨h1,h2⟩,h3,h4⟩
   exact⟨⟨h1,by omega,by omega⟩,h2,by omega,by omega⟩
  ·rintro⟨⟨h1,_,_⟩,h2,h3,h4⟩
   exact⟨⟨h1,h2⟩,by omega,by omega⟩
theorem Qfu(l:List typing_form)(d:Nat)(st co:Int)(h1:st<=64)(h2:co<=256):okL l d st co=true↔(l.isEmpty||(decide (d<=16)&&l.all (fD (d+1))))=true/\st+fSs l<=64/\co+fCs l<=256:=by
 unfold okL
 cases l with
 |nil=>simp[fSs,fCs,h1,h2]
 |cons f r=>
  simp only[List.isEmpty_cons,Bool.false_or,Bool.and_eq_true,decide_eq_true_eq]
  constructor
  ·rintro⟨a,b,c,e⟩;exact⟨⟨a,b⟩,c,e⟩
  ·rintro⟨⟨a,b⟩,c,e⟩;exact⟨a,b,c,e⟩
theorem QdH(s:Step)(d:Nat):((stepParts s).isEmpty||(decide (d<=16)&&(stepParts s).all (fD (d+1))))=(sDs d s.Then&&sDs d s.Else):=by
 rw[Qci,Qci]
 unfold stepParts
 rw[List.all_append]
 cases h1:s.Then<;>cases h2:s.Else<;>simp<;>(cases decide (d<=16)<;>simp)
def Cnt(R:Nat->List typing_form->Int->typing_count->Option (typing_count×Bool))(l:List typing_form)(d:Nat)(st co:Int):Prop:=
 ∃c':typing_count,Ev (fun n=>R n l (d:Int) {steps:=st,conds:=co}) (c',okL l d st co)/\(okL l d st co=true->c'={steps:=st+fSs l,conds:=co+fCs l})
theorem QhD{R:Nat->List typing_form->Int->typing_count->Option (typing_count×Bool)}{l:List typing_form}{d:Nat}(hd:d<=16){i:Nat}{f:typing_form}(ha:At l i f)(hw:fwf f)
  (ih:∀l' d' st co,fZs l'<fZ f->l'.length<=2097152->(∀f∈l',fwf f)->d'<=17->0<=st->st<=66->(st<=65\/ ∀f∈l',∃c,f=ofCond c)->0<=co->co<=256->Cnt R l' d' st co){st co:Int}(h0:0<=st)(h1':st<=66)(h1'':st<=65\/ ∃c,f=ofCond c)(h2:0<=co)(h3:co<=256):
  ∃c':typing_count,Ev (fun n=>F_dv n l (d:Int) (R n) ({steps:=st,conds:=co},(i:Int))) (bif okF f d st co then .cont (c',((i+1:Nat):Int))else .done (.done (c',false)))/\(okF f d st co=true->c'={steps:=st+fS f,conds:=co+fC f}):=by
 unfold F_dv
 simp only[ha.lt,cond_true,ha.ix,Option.bind_some,ha.nx]
 have ed:IntKind.i64.wrap ((d:Int)+1)=((d+1:Nat):Int):=Qaw (by omega)
 cases f with
 |ctyping_step x=>
  obtain⟨s⟩:=x
  have h1:st<=65:=by
   rcases h1'' with h|⟨c,h⟩
   ·exact h
   ·cases h
  have hw':Step.wf s:=hw
  obtain⟨wc,⟨wt1,wt2⟩,⟨we1,we2⟩⟩:=Qad hw'
  have e1:IntKind.i64.wrap (st+1)=st+1:=Q0 (by omega) (by omega)
  simp only[typing_form.elim,Qe2,Option.bind_some,e1]
  have hc:∃c2:typing_count,Ev (fun n=>((bif (!zeroC s.Cond)then(R n [typing_form.ctyping_cond {Cond:=s.Cond}] 0 {steps:=st+1,conds:=co}).bind fun r100=>some (r100.1,(!r100.2))else some ({steps:=st+1,conds:=co},false)):Option (typing_count×Bool))) (c2, !(zeroC s.Cond||(cD 1 s.Cond&&(decide (st+1<=64)&&decide (co+cN s.Cond<=256)))))/\
    ((zeroC s.Cond||(cD 1 s.Cond&&(decide (st+1<=64)&&decide (co+cN s.Cond<=256))))=true->c2={steps:=st+1,conds:=co+((bif zeroC s.Cond then 0 else cN s.Cond:Nat):Int)}):=by
   cases hz:zeroC s.Cond with
   |true=>
    refine⟨{steps:=st+1,conds:=co},?_,fun _=>?_⟩
    ·exact Qa _
    ·simp
   |false=>
    obtain⟨c2,q1,q2⟩:=ih [ofCond s.Cond] 0 (st+1) co (by simp only[fZs,List.map_cons,List.map_nil,List.sum_cons,List.sum_nil];show cN s.Cond+0<sZ s;rw[Qf5];omega) (by simp) (by intro g hg;simp only[List.mem_singleton]at hg;subst hg;exact wc) (by omega) (by omega) (by omega) (.inr (by intro g hg;simp only[List.mem_singleton]at hg;exact⟨_,hg⟩)) h2 h3
    have ek:okL [ofCond s.Cond] 0 (st+1) co=(cD 1 s.Cond&&(decide (st+1<=64)&&decide (co+cN s.Cond<=256))):=by
     unfold okL
     simp only[List.isEmpty_cons,Bool.false_or,List.all_cons,List.all_nil,Bool.and_true,fSs,fCs,List.map_cons,List.map_nil,List.sum_cons,List.sum_nil]
     rw[show fD (0+1) (ofCond s.Cond)=cD 1 s.Cond from rfl,show fS (ofCond s.Cond)=0 from rfl,show fC (ofCond s.Cond)=cN s.Cond from rfl]
     simp
    rw[ek]at q1 q2
    refine⟨c2,Ev.bind q1 (Qa _),fun h=>?_⟩
    rw[q2 h]
    simp[fSs,fCs,show fS (ofCond s.Cond)=0 from rfl,show fC (ofCond s.Cond)=cN s.Cond from rfl]
  obtain⟨c2,q1,q2⟩:=hc
  generalize hb:(zeroC s.Cond||(cD 1 s.Cond&&(decide (st+1<=64)&&decide (co+cN s.Cond<=256))))=b at q1 q2
  have hF:okF (typing_form.ctyping_step {Step:=s}) d st co=(sDp (d+1) s&&(decide (st+sNp s<=64)&&decide (co+sC s<=256))):=rfl
  rw[hF]
  cases b with
  |false=>
   have:(sDp (d+1) s&&(decide (st+sNp s<=64)&&decide (co+sC s<=256)))=false:=by
    rw[Bool.eq_false_iff]
    intro hh
    simp only[Bool.and_eq_true,decide_eq_true_eq,Qh3,QeO,QeP]at hh
    obtain⟨⟨z1,_⟩,z2,z3⟩:=hh
    cases hz:zeroC s.Cond with
    |true=>rw[hz]at hb;cases hb
    |false=>
     rw[hz]at hb z1 z3
     simp only[Bool.false_or]at hb z1
     rw[z1]at hb
     simp only[cond_false]at z3
     rw[Yu (show st+1<=64 by omega),Yu (show co+(cN s.Cond:Int)<=256 by omega)]at hb
     cases hb
   rw[this]
   exact⟨c2,Ev.bind q1 (Qa _),fun h=>by cases h⟩
  |true=>
   obtain rfl:=q2 rfl
   by_cases g1:64<st+1
   ·have:(sDp (d+1) s&&(decide (st+sNp s<=64)&&decide (co+sC s<=256)))=false:=by
     rw[Yy (show¬st+(sNp s:Int)<=64 by rw[QeO];omega)]
     simp
    rw[this]
    refine⟨{steps:=st+1,conds:=co+((bif zeroC s.Cond then 0 else cN s.Cond:Nat):Int)},Ev.bind q1 ?_,fun h=>by cases h⟩
    simp only[Bool.not_true,cond_false]
    refine Ev.bind (v:=(_,true)) ?_ (Qa _)
    rw[Yu g1]
    exact Qa _
   by_cases g2:256<co+((bif zeroC s.Cond then 0 else cN s.Cond:Nat):Int)
   ·have:(sDp (d+1) s&&(decide (st+sNp s<=64)&&decide (co+sC s<=256)))=false:=by
     rw[Yy (show¬co+(sC s:Int)<=256 by rw[QeP];omega)]
     simp
    rw[this]
    refine⟨{steps:=st+1,conds:=co+((bif zeroC s.Cond then 0 else cN s.Cond:Nat):Int)},Ev.bind q1 ?_,fun h=>by cases h⟩
    simp only[Bool.not_true,cond_false]
    refine Ev.bind (v:=(_,true)) ?_ (Qa _)
    rw[Yy g1,Yu g2]
    exact Qa _
   obtain⟨c3,p1,p2⟩:=ih (stepParts s) (d+1) (st+1) (co+((bif zeroC s.Cond then 0 else cN s.Cond:Nat):Int)) (by
     unfold stepParts
     rw[Qed,Qbq,Qbq]
     show _<sZ s
     rw[Qf5];omega) (by unfold stepParts;simp;omega) (by
     intro g hg
     unfold stepParts at hg
     rcases List.mem_append.1 hg with hg|hg
     ·obtain⟨y,hy,rfl⟩:=List.mem_map.1 hg;exact wt2 y hy
     ·obtain⟨y,hy,rfl⟩:=List.mem_map.1 hg;exact we2 y hy) (by omega) (by omega) (by omega) (.inl (by omega)) (by omega) (by omega)
   have eL:okL (stepParts s) (d+1) (st+1) (co+((bif zeroC s.Cond then 0 else cN s.Cond:Nat):Int))=(sDp (d+1) s&&(decide (st+sNp s<=64)&&decide (co+sC s<=256))):=by
    rw[Bool.eq_iff_iff,Qfu _ _ _ _ (by omega) (by omega),QdH]
    simp only[Bool.and_eq_true,decide_eq_true_eq,Qh3,QeO,QeP]
    have e2:fSs (stepParts s)=sNs s.Then+sNs s.Else:=by unfold stepParts;rw[Qef,QaX,QaX]
    have e3:fCs (stepParts s)=sCs s.Then+sCs s.Else:=by unfold stepParts;rw[Qeh,QaY,QaY]
    rw[e2,e3]
    have hz1:(zeroC s.Cond||cD 1 s.Cond)=true:=by
     cases hz:zeroC s.Cond with
     |true=>rfl
     |false=>
      rw[hz]at hb
      simp only[Bool.false_or,Bool.and_eq_true]at hb
      rw[hb.1];rfl
    constructor
    ·rintro⟨h4,h5,h6⟩;exact⟨⟨hz1,h4⟩,by omega,by omega⟩
    ·rintro⟨⟨_,h4⟩,h5,h6⟩;exact⟨h4,by omega,by omega⟩
   rw[eL]at p1 p2
   refine⟨c3,Ev.bind q1 ?_,fun h=>?_⟩
   ·simp only[Bool.not_true,cond_false]
    refine Ev.bind (v:=(c3, !(sDp (d+1) s&&(decide (st+sNp s<=64)&&decide (co+sC s<=256))))) ?_ ?_
    ·rw[Yy g1,Yy g2,ed]
     exact Ev.bind (Qbf s hw') (Ev.bind p1 (Qa _))
    ·cases(sDp (d+1) s&&(decide (st+sNp s<=64)&&decide (co+sC s<=256)))<;>exact Qa _
   ·rw[p2 h]
    have e2:fSs (stepParts s)=sNs s.Then+sNs s.Else:=by unfold stepParts;rw[Qef,QaX,QaX]
    have e3:fCs (stepParts s)=sCs s.Then+sCs s.Else:=by unfold stepParts;rw[Qeh,QaY,QaY]
    rw[e2,e3,show fS (typing_form.ctyping_step {Step:=s})=sNp s from rfl,show fC (typing_form.ctyping_step {Step:=s})=sC s from rfl,QeO,QeP]
    congr 1<;>omega
 |ctyping_cond x=>
  obtain⟨c⟩:=x
  have hw':Cond.wf c:=hw
  obtain⟨wp1,wp2⟩:=Qaf hw'
  have e1:IntKind.i64.wrap (co+1)=co+1:=Q0 (by omega) (by omega)
  simp only[typing_form.elim,e1]
  have hF:okF (typing_form.ctyping_cond {Cond:=c}) d st co=(cD (d+1) c&&(decide (st<=64)&&decide (co+cN c<=256))):=by
   show(cD (d+1) c&&(decide (st+((0:Nat):Int)<=64)&&decide (co+cN c<=256)))=_
   rw[show st+((0:Nat):Int)=st by omega]
  rw[hF]
  by_cases g1:64<st
  ·have:(cD (d+1) c&&(decide (st<=64)&&decide (co+cN c<=256)))=false:=by
    rw[Yy (show¬st<=64 by omega)];simp
   rw[this]
   refine⟨{steps:=st,conds:=co+1},?_,fun h=>by cases h⟩
   refine Ev.bind (v:=(_,true)) ?_ (Qa _)
   rw[Yu g1]
   exact Qa _
  by_cases g2:256<co+1
  ·have:(cD (d+1) c&&(decide (st<=64)&&decide (co+cN c<=256)))=false:=by
    rw[Yy (show¬co+(cN c:Int)<=256 by rw[Qcl];omega)];simp
   rw[this]
   refine⟨{steps:=st,conds:=co+1},?_,fun h=>by cases h⟩
   refine Ev.bind (v:=(_,true)) ?_ (Qa _)
   rw[Yy g1,Yu g2]
   exact Qa _
  obtain⟨c3,p1,p2⟩:=ih (c.Parts.map ofCond) (d+1) st (co+1) (by
    rw[Qee]
    show _<cN c
    rw[Qcl];omega) (by simp;omega) (by
    intro g hg
    obtain⟨y,hy,rfl⟩:=List.mem_map.1 hg;exact wp2 y hy) (by omega) (by omega) (by omega) (.inl (by omega)) (by omega) (by omega)
  have eL:okL (c.Parts.map ofCond) (d+1) st (co+1)=(cD (d+1) c&&(decide (st<=64)&&decide (co+cN c<=256))):=by
   rw[Bool.eq_iff_iff,Qfu _ _ _ _ (by omega) (by omega), <- Qgy,Qeg,Qei]
   simp only[Bool.and_eq_true,decide_eq_true_eq,Qkt,Qcl]
   constructor
   ·rintro⟨h4,h5,h6⟩;exact⟨h4,by omega,by omega⟩
   ·rintro⟨h4,h5,h6⟩;exact⟨h4,by omega,by omega⟩
  rw[eL]at p1 p2
  refine⟨c3,?_,fun h=>?_⟩
  ·refine Ev.bind (v:=(c3, !(cD (d+1) c&&(decide (st<=64)&&decide (co+cN c<=256))))) ?_ ?_
   ·rw[Yy g1,Yy g2,ed]
    exact Ev.bind (Qcj c hw') (Ev.bind p1 (Qa _))
   ·cases(cD (d+1) c&&(decide (st<=64)&&decide (co+cN c<=256)))<;>exact Qa _
  ·rw[p2 h,Qeg,Qei,show fS (typing_form.ctyping_cond {Cond:=c})=0 from rfl,show fC (typing_form.ctyping_cond {Cond:=c})=cN c from rfl,Qcl]
   congr 1
   omega
theorem Qkg:∀(m:Nat) (l:List typing_form) (d:Nat) (st co:Int),fZs l<=m->l.length<=2097152->(∀f∈l,fwf f)->d<=17->0<=st->st<=66->(st<=65\/ ∀f∈l,∃c,f=ofCond c)->0<=co->co<=256->Cnt F_c l d st co:=by
 intro m
 induction m using Nat.strongRecOn with
 |_ m ih=>
 intro l d st co hm hl hw hd h0 h1 h1' h2 h3
 unfold Cnt
 have unf:∀c:typing_count,(∃c':typing_count,Ev (fun n=>B_c (F_c n) n l (d:Int) c) (c',okL l d st co)/\(okL l d st co=true->c'={steps:=st+fSs l,conds:=co+fCs l}))->∃c':typing_count,Ev (fun n=>F_c n l (d:Int) c) (c',okL l d st co)/\(okL l d st co=true->c'={steps:=st+fSs l,conds:=co+fCs l}):=by
  rintro c ⟨c',q1,q2⟩
  exact⟨c',Qae q1,q2⟩
 refine unf _ ?_
 unfold B_c
 cases hll:l with
 |nil=>
  refine⟨{steps:=st,conds:=co},?_,fun _=>by simp[fSs,fCs]⟩
  refine Ev.bind (v:=false) (Qa _) (Ev.ff ?_)
  refine Ev.bind (v:=Ctl.cont {steps:=st,conds:=co}) (EvI.ev (EvI.done ?_)) (Qa _)
  exact Qa _
 |cons f0 r0=>
 rw[<- hll]
 have hne:l.isEmpty=false:=by rw[hll];rfl
 have hpos:0<l.length:=by rw[hll];simp
 by_cases hdd:d<=16
 rotate_left
 ·have:okL l d st co=false:=by unfold okL;rw[hne,Yy hdd];rfl
  rw[this]
  refine⟨{steps:=st,conds:=co},?_,fun h=>by cases h⟩
  rw[Yu (show(0:Int)<(l.length:Int)by omega),Yu (show(16:Int)<(d:Int)by omega)]
  exact Ev.bind (Qa _) (Qa _)
 have eLR:okL l d st co=okR l d st co:=by unfold okL okR;rw[Yu hdd,Bool.true_and]
 rw[eLR]
 have loop:∀(r:List typing_form) (i:Nat) (st co:Int),l.drop i=r->i<=l.length->0<=st->st<=66->(st<=65\/ ∀f∈l,∃c,f=ofCond c)->0<=co->co<=256->
   ∃c':typing_count,EvI (fun n=>F_dv n l (d:Int) (F_c n)) ({steps:=st,conds:=co},(i:Int)) (bif okR r d st co then Ctl.cont c' else Ctl.done (c',false))/\(okR r d st co=true->c'={steps:=st+fSs r,conds:=co+fCs r}):=by
  intro r
  induction r with
  |nil=>
   intro i st co hr hi _ _ _ _ _
   refine⟨{steps:=st,conds:=co},EvI.done ?_,fun _=>by simp[fSs,fCs]⟩
   unfold F_dv
   simp only[Yi hr hi,cond_false]
   exact Qa _
  |cons f r ihr=>
   intro i st co hr hi g0 g1 g1' g2 g3
   obtain⟨ha,hr'⟩:=QE (by omega) hr
   have hfm:fZ f<=fZs l:=by
    have:∀(l:List typing_form),f∈l->fZ f<=fZs l:=by
     intro l
     induction l with
     |nil=>intro h;cases h
     |cons x l ih=>
      intro h
      rw[Qgw]
      rcases List.mem_cons.1 h with rfl|h
      ·omega
      ·have:=ih h;omega
    exact this l ha.mem
   obtain⟨c',p1,p2⟩:=QhD (R:=F_c) hdd ha (hw f ha.mem) (fun l' d' st co k1 k2 k3 k4 k5 k6 k6' k7 k8=>ih (fZs l') (by omega) l' d' st co (Nat.le_refl _) k2 k3 k4 k5 k6 k6' k7 k8) g0 g1 (g1'.imp id fun h=>h f ha.mem) g2 g3
   rw[QjL]
   cases hf:okF f d st co with
   |false=>
    rw[hf]at p1
    exact⟨c',EvI.done p1,fun h=>by cases h⟩
   |true=>
    rw[hf]at p1
    obtain rfl:=p2 hf
    have hb:st+fS f<=64/\co+fC f<=256:=by
     unfold okF at hf
     simp only[Bool.and_eq_true,decide_eq_true_eq]at hf
     exact hf.2
    obtain⟨c2,u1,u2⟩:=ihr (i+1) (st+fS f) (co+fC f) hr' (by have:=ha.lt';omega) (by omega) (by omega) (.inl (by omega)) (by omega) (by omega)
    refine⟨c2,EvI.cont p1 u1,fun h=>?_⟩
    rw[u2 (by simpa using h),Qgx,Qgz]
    congr 1<;>omega
 obtain⟨c',p1,p2⟩:=loop l 0 st co rfl (Nat.zero_le _) h0 h1 h1' h2 h3
 refine⟨c',?_,p2⟩
 refine Ev.bind (v:=false) ?_ (Ev.ff (Ev.bind p1.ev ?_))
 ·rw[Yu (show(0:Int)<(l.length:Int)by omega),Yy (show¬(16:Int)<(d:Int)by omega)]
  exact Qa _
 ·cases okR l d st co<;>exact Qa _
mutual
def vaC:Cond->Bool
 |⟨k,v,n,ps⟩=>bif k==1 then inR 1 3 v&&(inR 0 10000 n&&((ps.length:Int)==0))else
   bif k==4 then((v==0)&&(n==0))&&(((ps.length:Int)==1)&&vaCs ps)else
   bif (k==2)||(k==3)then((v==0)&&(n==0))&&((decide (0<(ps.length:Int))&&decide ((ps.length:Int)<=16))&&vaCs ps)else false
def vaCs:List Cond->Bool
 |[]=>true
 |c::r=>vaC c&&vaCs r
end
theorem Ql6(c:Cond):vaC c=bif c.Kind==1 then inR 1 3 c.Var&&(inR 0 10000 c.N&&((c.Parts.length:Int)==0))else
   bif c.Kind==4 then((c.Var==0)&&(c.N==0))&&(((c.Parts.length:Int)==1)&&vaCs c.Parts)else
   bif (c.Kind==2)||(c.Kind==3)then((c.Var==0)&&(c.N==0))&&((decide (0<(c.Parts.length:Int))&&decide ((c.Parts.length:Int)<=16))&&vaCs c.Parts)else false:=by cases c;rfl
theorem QhW:∀l:List Cond,vaCs l=l.all vaC
 |[]=>rfl
 |c::r=>by rw[vaCs,List.all_cons,QhW r]
mutual
def vaS:Step->Bool
 |⟨k,b,c,t,e⟩=>bif k==1 then inR 1 5 b&&(zeroC c&&(((t.length:Int)==0)&&((e.length:Int)==0)))else
   bif k==2 then(b==0)&&(vaC c&&(decide (0<(t.length:Int))&&(vaSs t&&vaSs e)))else false
def vaSs:List Step->Bool
 |[]=>true
 |s::r=>vaS s&&vaSs r
end
theorem Ql5(s:Step):vaS s=bif s.Kind==1 then inR 1 5 s.By&&(zeroC s.Cond&&(((s.Then.length:Int)==0)&&((s.Else.length:Int)==0)))else
   bif s.Kind==2 then(s.By==0)&&(vaC s.Cond&&(decide (0<(s.Then.length:Int))&&(vaSs s.Then&&vaSs s.Else)))else false:=by cases s;rfl
theorem QhV:∀l:List Step,vaSs l=l.all vaS
 |[]=>rfl
 |c::r=>by rw[vaSs,List.all_cons,QhV r]
def fV:typing_form->Bool
 |.ctyping_step x=>vaS x.Step
 |.ctyping_cond x=>vaC x.Cond
theorem QhG(l:List Cond):(l.map ofCond).any (fun f=> !fV f)= !vaCs l:=by
 rw[QhW,List.not_all_eq_any_not,List.any_map]
 rfl
theorem Qb1(l:List Step):(l.map ofStep).any (fun f=> !fV f)= !vaSs l:=by
 rw[QhV,List.not_all_eq_any_not,List.any_map]
 rfl
theorem Qe1{R:Nat->List typing_form->Option Bool}(c:Cond)(hw:Cond.wf c)(ih:Ev (fun n=>R n (c.Parts.map ofCond)) (!vaCs c.Parts)):
  Ev (fun n=>F_ax (R n) n {Cond:=c}) (vaC c):=by
 unfold F_ax
 rw[Ql6]
 refine Ev.bind (v:=(c.Var==0)&&(c.N==0)) (Ev.and fun _=>Qa _) ?_
 refine Qbx (fun _=>?_) (fun h1=>?_)
 ·exact Ev.bind (Ev.bind (Qq _ _ _) (Ev.and fun _=>Ev.bind (Qq _ _ _) (Ev.and fun _=>Qa _))) (Qa _)
 ·have fin:∀b:Bool,Ev (fun n=>((bif b then(F_n n {Cond:=c}).bind fun r42=>(R n r42).bind fun r43=>some (!r43)else some false):Option Bool).bind fun b39=>some b39) (b&&vaCs c.Parts):=by
   intro b
   refine Ev.bind ((Ev.and fun _=>Ev.bind (Qcj c hw) (Ev.bind ih (Qa _)))) ((Qa _).eq (by simp))
  cases h4:(c.Kind==4)with
  |true=>
   simp only[cond_true]
   cases hp:((c.Var==0)&&(c.N==0))with
   |true=>
    refine Ev.bind (v:=Ctl.cont ((c.Parts.length:Int)==1)) (Qa _) ((fin _).eq (by simp))
   |false=>
    refine Ev.bind (v:=Ctl.cont false) (Qa _) ((fin _).eq (by simp))
  |false=>
   simp only[cond_false]
   cases h23:((c.Kind==2)||(c.Kind==3))with
   |true=>
    simp only[cond_true]
    have e:Ev (fun n:Nat=>((bif (c.Kind==2)then some (c.Kind==2)else some (c.Kind==3)):Option Bool)) true:=by
     refine Ev.const ?_
     rw[Qku,h23]
    cases hp:((c.Var==0)&&(c.N==0))with
    |true=>
     cases h0:decide (0<(c.Parts.length:Int))with
     |true=>
      refine Ev.bind (v:=Ctl.cont (decide ((c.Parts.length:Int)<=16))) (Ev.bind e (Qa _)) ((fin _).eq (by simp))
     |false=>
      refine Ev.bind (v:=Ctl.cont false) (Ev.bind e (Qa _)) ((fin _).eq (by simp))
    |false=>
     refine Ev.bind (v:=Ctl.cont false) (Ev.bind e (Qa _)) ((fin _).eq (by simp))
   |false=>
    have e:Ev (fun n:Nat=>((bif (c.Kind==2)then some (c.Kind==2)else some (c.Kind==3)):Option Bool)) false:=by
     refine Ev.const ?_
     rw[Qku,h23]
    refine Ev.bind (v:=Ctl.done false) (Ev.bind e (Qa _)) (Qa _)
theorem Qhv:∀(m:Nat) (l:List typing_form),fZs l<=m->l.length<=2097152->(∀f∈l,fwf f)->Ev (fun n=>F_g n l) (l.any fun f=> !fV f):=by
 intro m
 induction m using Nat.strongRecOn with
 |_ m ih=>
 intro l hm hl hw
 refine Qae ?_
 show Ev (fun n=>B_g (F_g n) n l) _
 unfold B_g F_cw
 refine Ev.contains l _ (fun n f=>F_by (F_g n) n f) (by omega) fun f hf=>?_
 have hfm:fZ f<=fZs l:=by
  have:∀(l:List typing_form),f∈l->fZ f<=fZs l:=by
   intro l
   induction l with
   |nil=>intro h;cases h
   |cons x l ih=>
    intro h
    rw[Qgw]
    rcases List.mem_cons.1 h with rfl|h
    ·omega
    ·have:=ih h;omega
  exact this l hf
 unfold F_by
 refine Ev.bind (v:=fV f) ?_ (Qa _)
 have condIH:∀c:Cond,Cond.wf c->cNs c.Parts<fZ f->Ev (fun n=>F_g n (c.Parts.map ofCond)) (!vaCs c.Parts):=by
  intro c hc hs
  rw[<- QhG]
  obtain⟨w1,w2⟩:=Qaf hc
  refine ih (fZs (c.Parts.map ofCond)) (by rw[Qee];omega) _ (Nat.le_refl _) (by simp;omega) ?_
  intro g hg
  obtain⟨y,hy,rfl⟩:=List.mem_map.1 hg;exact w2 y hy
 cases f with
 |ctyping_cond x=>
  obtain⟨c⟩:=x
  have hc:Cond.wf c:=hw _ hf
  exact Qe1 (R:=F_g) c hc (condIH c hc (by show cNs c.Parts<cN c;rw[Qcl];omega))
 |ctyping_step x=>
  obtain⟨s⟩:=x
  have hs:Step.wf s:=hw _ hf
  obtain⟨wc,⟨wt1,wt2⟩,⟨we1,we2⟩⟩:=Qad hs
  unfold F_cs
  show Ev _ (vaS s)
  rw[Ql5]
  simp only[typing_form.elim]
  refine Qbx (fun _=>?_) (fun h1=>Qbx (fun _=>?_) fun _=>Qa _)
  ·refine Ev.bind (Ev.bind (Qq _ _ _) (Ev.and fun _=>?_)) (Qa _)
   simp only[Qe2,Option.bind_some]
   refine Ev.and fun _=>Ev.bind (Qbf s hs) ((Qa _).eq ?_)
   unfold stepParts
   rw[Bool.eq_iff_iff]
   simp only[beq_iff_eq,Bool.and_eq_true,List.length_append,List.length_map]
   omega
  ·refine Ev.bind (Ev.and fun _=>?_) (Qa _)
   refine Ev.bind (Qe1 (R:=F_g) s.Cond wc (condIH s.Cond wc (by show _<sZ s;rw[Qf5,Qcl];omega))) (Ev.and fun _=>Ev.and fun _=>?_)
   refine Ev.bind (Qbf s hs) (Ev.bind (ih (fZs (stepParts s)) ?_ _ (Nat.le_refl _) (by unfold stepParts;simp;omega) ?_) ((Qa _).eq ?_))
   ·have:fZs (stepParts s)<sZ s:=by
     unfold stepParts
     rw[Qed,Qbq,Qbq,Qf5];omega
    have h2:fZ (typing_form.ctyping_step {Step:=s})=sZ s:=rfl
    omega
   ·intro g hg
    unfold stepParts at hg
    rcases List.mem_append.1 hg with hg|hg
    ·obtain⟨y,hy,rfl⟩:=List.mem_map.1 hg;exact wt2 y hy
    ·obtain⟨y,hy,rfl⟩:=List.mem_map.1 hg;exact we2 y hy
   ·unfold stepParts
    rw[List.any_append,Qb1,Qb1]
    simp
def goodT(l:List Step):Bool:=sDs 0 l&&(decide (sNs l<=64)&&decide (sCs l<=256))
def tiesE(l:List Step):Int:=bif goodT l then(bif l.isEmpty|| !vaSs l then 71 else 0)else 2
theorem QjM(l:List Step):okL (l.map ofStep) 0 0 0=goodT l:=by
 rw[Bool.eq_iff_iff,Qfu _ _ _ _ (by omega) (by omega), <- Qci,QaX,QaY]
 unfold goodT
 simp only[Bool.and_eq_true,decide_eq_true_eq]
 constructor
 ·rintro⟨a,b,c⟩;exact⟨a,by omega,by omega⟩
 ·rintro⟨a,b,c⟩;exact⟨a,by omega,by omega⟩
theorem Qlu(l:List Step)(hl:l.length<=1048576)(hw:∀x∈l,Step.wf x):Ev (fun n=>F_an n l) (tiesE l):=by
 unfold F_an
 refine Ev.bind (Qej l (by omega)) (Ev.bind (v:=tiesE l) ?_ (Qa _))
 have fw:∀f∈l.map ofStep,fwf f:=by
  intro g hg
  obtain⟨y,hy,rfl⟩:=List.mem_map.1 hg;exact hw y hy
 obtain⟨c',p1,p2⟩:=Qkg _ (l.map ofStep) 0 0 0 (Nat.le_refl _) (by simp;omega) fw (by omega) (by omega) (by omega) (.inl (by omega)) (by omega) (by omega)
 rw[QjM]at p1
 unfold F_ea
 have p3:Ev (fun n=>F_eu n (l.map ofStep) 0 {steps:=0,conds:=0}) (c',goodT l):=p1.shift
 refine Ev.bind p3 ?_
 unfold tiesE
 cases goodT l with
 |false=>exact Qa _
 |true=>
  simp only[Bool.not_true,cond_false,cond_true]
  have e:(((l.map ofStep).length:Int)==0)=l.isEmpty:=by
   cases l<;>simp
   omega
  rw[e]
  refine Ev.bind (QaJ fun _=>Ev.bind (Qhv _ _ (Nat.le_refl _) (by simp;omega) fw) (Qa _)) ?_
  rw[Qb1]
  cases(l.isEmpty|| !vaSs l)<;>exact Qa _
def condB(d:Nat):Int:=256*(18-(d:Int))+1000
theorem QeF:∀(m:Nat) (c:Cond) (d:Nat),cN c<=m->d<=17->Cond.wf c->∃v:Int,Ev (fun n=>F_h n c (d:Int)) v/\0<=v/\v<=condB d/\
  (d<=16/\cD (d+1) c=true/\cN c<=256->v=cN c)/\(¬(d<=16/\cD (d+1) c=true/\cN c<=256)->256<v):=by
 intro m
 induction m using Nat.strongRecOn with
 |_ m ih=>
 intro c d hm hd hw
 obtain⟨wp1,wp2⟩:=Qaf hw
 have unf:∀{P:Int->Prop},(∃v:Int,Ev (fun n=>B_h (F_h n) n c (d:Int)) v/\P v)->∃v:Int,Ev (fun n=>F_h n c (d:Int)) v/\P v:=by
  rintro P ⟨v,h1,h2⟩;exact⟨v,Qae h1,h2⟩
 refine unf ?_
 unfold B_h
 by_cases hdd:d<=16
 ·rw[Yy (show¬(16:Int)<(d:Int)by omega)]
  have ed:IntKind.i64.wrap ((d:Int)+1)=((d+1:Nat):Int):=Qaw (by omega)
  have loop:∀(r:List Cond) (i:Nat) (a:Int),c.Parts.drop i=r->i<=c.Parts.length->0<=a->a<=condB d->
    ∃v:Int,EvI (fun n=>F_dh n c (d:Int) (F_h n)) (a,(i:Int)) v/\0<=v/\v<=condB d/\
     (cDs (d+1) r=true/\a+cNs r<=256->v=a+cNs r)/\(¬(cDs (d+1) r=true/\a+cNs r<=256)->256<v):=by
   intro r
   induction r with
   |nil=>
    intro i a hr hi h0 h1
    refine⟨a,EvI.done ?_,h0,h1,fun _=>by simp[cNs],fun h=>?_⟩
    ·unfold F_dh
     simp only[Yi hr hi,cond_false,Option.bind_some]
     exact Qa _
    ·simp[cDs,cNs]at h;omega
   |cons x r ihr=>
    intro i a hr hi h0 h1
    obtain⟨ha,hr'⟩:=QE (by omega) hr
    have hx:cN x<cN c:=by
     have:∀l:List Cond,x∈l->cN x<=cNs l:=by
      intro l
      induction l with
      |nil=>intro h;cases h
      |cons y l ih=>
       intro h
       rw[cNs]
       rcases List.mem_cons.1 h with rfl|h
       ·omega
       ·have:=ih h;omega
     have:=this _ ha.mem
     rw[Qcl c];omega
    by_cases hlim:a<=256
    ·obtain⟨v,p1,p2,p3,p4,p5⟩:=ih (cN x) (by omega) x (d+1) (Nat.le_refl _) (by omega) (wp2 x ha.mem)
     have hB:condB (d+1)+256=condB d:=by unfold condB;omega
     have hB2:condB d<=6000:=by unfold condB;omega
     have e1:IntKind.i64.wrap (a+v)=a+v:=Q0 (by omega) (by omega)
     obtain⟨w,q1,q2,q3,q4,q5⟩:=ihr (i+1) (a+v) hr' (by have:=ha.lt';omega) (by omega) (by omega)
     refine⟨w,EvI.cont ?_ q1,q2,q3,?_,?_⟩
     ·unfold F_dh
      simp only[ha.lt,cond_true,Yu hlim,Option.bind_some,ha.ix,ha.nx,ed]
      refine Ev.bind p1 ?_
      rw[e1]
      exact Qa _
     ·rintro⟨h2,h3⟩
      simp only[cDs,Bool.and_eq_true,decide_eq_true_eq]at h2
      rw[cNs]at h3⊢
      have:=p4 ⟨h2.1,h2.2.1,by omega⟩
      subst this
      rw[q4 ⟨h2.2.2,by omega⟩]
      omega
     ·intro hn
      by_cases hg:d+1<=16/\cD (d+1+1) x=true/\cN x<=256
      ·have:=p4 hg
       subst this
       refine q5 fun h2=>hn ⟨?_,?_⟩
       ·simp only[cDs,Bool.and_eq_true,decide_eq_true_eq];exact⟨hg.1,hg.2.1,h2.1⟩
       ·rw[cNs];omega
      ·have:=p5 hg
       exact q5 fun h2=>by omega
    ·refine⟨a,EvI.done ?_,h0,h1,fun h=>?_,fun _=>by omega⟩
     ·unfold F_dh
      simp only[ha.lt,cond_true,Yy hlim,Option.bind_some,cond_false]
      exact Qa _
     ·omega
  obtain⟨v,p1,p2,p3,p4,p5⟩:=loop c.Parts 0 1 rfl (Nat.zero_le _) (by omega) (by unfold condB;omega)
  refine⟨v,Ev.ff (Ev.bind p1.ev (Qa _)),p2,p3,?_,?_⟩
  ·rintro⟨_,h2,h3⟩
   rw[Qkt]at h2
   rw[Qcl]at h3⊢
   rw[p4 ⟨h2,by omega⟩];omega
  ·intro hn
   refine p5 fun h=>hn ⟨hdd,by rw[Qkt];exact h.1,by rw[Qcl];omega⟩
 ·rw[Yu (show(16:Int)<(d:Int)by omega)]
  refine⟨1000,Qio (Qa _),by omega,by unfold condB;omega,fun h=>absurd h.1 hdd,fun _=>by omega⟩
def sizeB:Nat->Int
 |0=>10000
 |k+1=>3*sizeB k
theorem Qb5:∀k,10000<=sizeB k
 |0=>Int.le_refl _
 |k+1=>by have:=Qb5 k;simp only[sizeB];omega
theorem Qjw{k:Nat}(h:k<=17):sizeB k<=1291401630000:=by
 have:∀j,j<=17->sizeB j<=1291401630000:=by decide+kernel
 exact this k h
def goodL(d:Nat)(l:List Step):Prop:=sDs d l=true/\sNs l<=64/\sCs l<=256
theorem Qlq:∀(m:Nat) (l:List Step) (d:Nat),sZs l<=m->d<=17->l.length<=1048576->(∀x∈l,Step.wf x)->∃a b:Int,Ev (fun n=>F_j n l (d:Int)) (a,b)/\0<=a/\0<=b/\a<=sizeB (17-d)/\b<=sizeB (17-d)/\
  (goodL d l->a=sNs l/\b=sCs l)/\(¬goodL d l->64<a\/256<b):=by
 intro m
 induction m using Nat.strongRecOn with
 |_ m ih=>
 intro l d hm hd hl hw
 have unf:∀{P:Int->Int->Prop},(∃a b:Int,Ev (fun n=>B_j (F_j n) n l (d:Int)) (a,b)/\P a b)->∃a b:Int,Ev (fun n=>F_j n l (d:Int)) (a,b)/\P a b:=by
  rintro P ⟨a,b,h1,h2⟩;exact⟨a,b,Qae h1,h2⟩
 refine unf ?_
 unfold B_j
 by_cases hbad:0<l.length/\ ¬d<=16
 ·rw[Yu (show(0:Int)<(l.length:Int)by omega),Yu (show(16:Int)<(d:Int)by omega)]
  have:=Qb5 (17-d)
  refine⟨1000,1000,Ev.bind (Qa _) (Qio (Qa _)),by omega,by omega,by omega,by omega,fun h=>?_,fun _=>by omega⟩
  exfalso
  cases l with
  |nil=>simp at hbad
  |cons x r=>
   have:=h.1
   simp only[sDs,Bool.and_eq_true,decide_eq_true_eq]at this
   exact hbad.2 this.1
 ·have h0:Ev (fun n:Nat=>((bif decide (0<(l.length:Int))then some (decide (16<(d:Int)))else some false):Option Bool)) false:=by
   by_cases hp:0<l.length
   ·have:d<=16:=by
     rcases Nat.lt_or_ge 16 d with q|q
     ·exact absurd ⟨hp,by omega⟩ hbad
     ·exact q
    rw[Yu (show(0:Int)<(l.length:Int)by omega),Yy (show¬(16:Int)<(d:Int)by omega)]
    exact Qa _
   ·rw[Yy (show¬(0:Int)<(l.length:Int)by omega)]
    exact Qa _
  have ed:IntKind.i64.wrap ((d:Int)+1)=((d+1:Nat):Int):=Qaw (by omega)
  have loop:∀(r:List Step) (i:Nat) (a b:Int),l.drop i=r->i<=l.length->0<=a->0<=b->a<=sizeB (17-d)->b<=sizeB (17-d)->
    ∃a' b':Int,EvI (fun n=>F_cr n l (d:Int) (F_j n)) (a,b,(i:Int)) (a',b')/\0<=a'/\0<=b'/\a'<=sizeB (17-d)/\b'<=sizeB (17-d)/\
     (sDs d r=true/\a+sNs r<=64/\b+sCs r<=256->a'=a+sNs r/\b'=b+sCs r)/\(¬(sDs d r=true/\a+sNs r<=64/\b+sCs r<=256)->64<a'\/256<b'):=by
   intro r
   induction r with
   |nil=>
    intro i a b hr hi h0 h1 h2 h3
    refine⟨a,b,EvI.done ?_,h0,h1,h2,h3,fun _=>by simp[sNs,sCs],fun h=>?_⟩
    ·unfold F_cr
     simp only[Yi hr hi,cond_false,Option.bind_some]
     exact Qa _
    ·simp[sDs,sNs,sCs]at h;omega
   |cons s r ihr=>
    intro i a b hr hi h0 h1 h2 h3
    obtain⟨ha,hr'⟩:=QE (by omega) hr
    have hlt:=ha.lt'
    have hd16:d<=16:=by
     rcases Nat.lt_or_ge 16 d with q|q
     ·exact absurd ⟨by omega,by omega⟩ hbad
     ·exact q
    have hsz:sZ s<=sZs l:=by
     have:∀l:List Step,s∈l->sZ s<=sZs l:=by
      intro l
      induction l with
      |nil=>intro h;cases h
      |cons y l ih=>
       intro h
       rw[sZs]
       rcases List.mem_cons.1 h with rfl|h
       ·omega
       ·have:=ih h;omega
     exact this _ ha.mem
    by_cases hlim:a<=64/\b<=256
    ·obtain⟨wc,⟨wt1,wt2⟩,⟨we1,we2⟩⟩:=Qad (hw s ha.mem)
     have hzz:=Qf5 s
     obtain⟨x1,x2,p1,p2,p3,p4,p5,p6,p7⟩:=ih (sZs s.Then) (by omega) s.Then (d+1) (Nat.le_refl _) (by omega) wt1 wt2
     obtain⟨y1,y2,q1,q2,q3,q4,q5,q6,q7⟩:=ih (sZs s.Else) (by omega) s.Else (d+1) (Nat.le_refl _) (by omega) we1 we2
     have hB:sizeB (17-d)=3*sizeB (17-(d+1)):=by
      rw[show 17-d=(17-(d+1))+1 by omega];rfl
     have hB1:=Qb5 (17-(d+1))
     have hB2:=Qjw (k:=17-d) (by omega)
     have hc:∃z:Int,0<=z/\z<=5608/\Ev (fun n=>((bif (!zeroC s.Cond)then(idx l (i:Int)).bind fun x72=>(F_h n x72.Cond 0).bind fun r73=>some (IntKind.i64.wrap ((IntKind.i64.wrap ((IntKind.i64.wrap (b+x2))+y2))+r73))else some (IntKind.i64.wrap ((IntKind.i64.wrap (b+x2))+y2))):Option Int)) (b+x2+y2+z)/\
       ((zeroC s.Cond||cD 1 s.Cond)=true/\(bif zeroC s.Cond then 0 else cN s.Cond)<=256->z=((bif zeroC s.Cond then 0 else cN s.Cond:Nat):Int))/\(¬((zeroC s.Cond||cD 1 s.Cond)=true/\(bif zeroC s.Cond then 0 else cN s.Cond)<=256)->256<z):=by
      have e1:IntKind.i64.wrap (b+x2)=b+x2:=Q0 (by omega) (by omega)
      have e2:IntKind.i64.wrap (b+x2+y2)=b+x2+y2:=Q0 (by omega) (by omega)
      cases hz:zeroC s.Cond with
      |true=>
       refine⟨0,by omega,by omega,?_,fun _=>by simp,fun h=>absurd ⟨rfl,by simp⟩ h⟩
       simp only[Bool.not_true,cond_false,e1,e2]
       exact(Qa _).eq (by omega)
      |false=>
       obtain⟨v,u1,u2,u3,u4,u5⟩:=QeF _ s.Cond 0 (Nat.le_refl _) (by omega) wc
       have u3':v<=5608:=by unfold condB at u3;omega
       have e3:IntKind.i64.wrap (b+x2+y2+v)=b+x2+y2+v:=Q0 (by omega) (by omega)
       refine⟨v,u2,u3',?_,fun h=>?_,fun h=>?_⟩
       ·simp only[Bool.not_false,cond_true,ha.ix,Option.bind_some,e1,e2]
        refine Ev.bind u1 ?_
        rw[e3]
        exact Qa _
       ·simp only[Bool.false_or,cond_false]at h⊢
        exact u4 ⟨by omega,h.1,h.2⟩
       ·simp only[Bool.false_or,cond_false]at h
        exact u5 fun q=>h ⟨q.2.1,q.2.2⟩
     obtain⟨z,z0,z1,z2,z3,z4⟩:=hc
     have e4:IntKind.i64.wrap (a+1)=a+1:=Q0 (by omega) (by omega)
     have e5:IntKind.i64.wrap (a+1+x1)=a+1+x1:=Q0 (by omega) (by omega)
     have e6:IntKind.i64.wrap (a+1+x1+y1)=a+1+x1+y1:=Q0 (by omega) (by omega)
     obtain⟨w1,w2,v1,v2,v3,v4,v5,v6,v7⟩:=ihr (i+1) (a+1+x1+y1) (b+x2+y2+z) hr' (by omega) (by omega) (by omega) (by omega) (by omega)
     refine⟨w1,w2,EvI.cont ?_ v1,v2,v3,v4,v5,?_,?_⟩
     ·unfold F_cr
      simp only[ha.lt,cond_true,Yu hlim.1,Yu hlim.2,Option.bind_some,ha.ix,ha.nx,ed,Qhs]
      refine Ev.bind p1 (Ev.bind q1 ?_)
      simp only[ha.ix,Option.bind_some]at z2
      refine Ev.bind z2 ?_
      rw[e4,e5,e6]
      exact Qa _
     ·rintro⟨g1,g2,g3⟩
      simp only[sDs,Bool.and_eq_true,decide_eq_true_eq,Qh3]at g1
      obtain⟨g11,⟨g12,g13,g14⟩,g15⟩:=g1
      rw[sNs,QeO]at g2⊢
      rw[sCs,QeP]at g3⊢
      obtain⟨k1,k2⟩:=p6 ⟨g13,by omega,by omega⟩
      obtain⟨k3,k4⟩:=q6 ⟨g14,by omega,by omega⟩
      have k5:=z3 ⟨g12,by omega⟩
      obtain⟨k6,k7⟩:=v6 ⟨g15,by omega,by omega⟩
      constructor<;>omega
     ·intro hn
      by_cases b1:goodL (d+1) s.Then
      ·obtain⟨k1,k2⟩:=p6 b1
       by_cases b2:goodL (d+1) s.Else
       ·obtain⟨k3,k4⟩:=q6 b2
        by_cases b3:(zeroC s.Cond||cD 1 s.Cond)=true/\(bif zeroC s.Cond then 0 else cN s.Cond)<=256
        ·have k5:=z3 b3
         refine v7 fun q=>hn ⟨?_,?_,?_⟩
         ·simp only[sDs,Bool.and_eq_true,decide_eq_true_eq,Qh3]
          exact⟨hd16,⟨b3.1,b1.1,b2.1⟩,q.1⟩
         ·rw[sNs,QeO];omega
         ·rw[sCs,QeP];omega
        ·have:=z4 b3
         exact v7 fun q=>by omega
       ·have:=q7 b2
        exact v7 fun q=>by omega
      ·have:=p7 b1
       exact v7 fun q=>by omega
    ·refine⟨a,b,EvI.done ?_,h0,h1,h2,h3,fun h=>?_,fun _=>?_⟩
     ·unfold F_cr
      have:Ev (fun n:Nat=>((bif decide ((i:Int)<(l.length:Int))then(bif decide (a<=64)then some (decide (b<=256))else some false)else some false):Option Bool)) false:=by
       rw[ha.lt]
       by_cases q:a<=64
       ·rw[Yu q,Yy (show¬b<=256 from fun z=>hlim ⟨q,z⟩)];exact Qa _
       ·rw[Yy q];exact Qa _
      exact Ev.bind this (Ev.ff (Qa _))
     ·omega
     ·omega
  have hB1:=Qb5 (17-d)
  obtain⟨a,b,p1,p2,p3,p4,p5,p6,p7⟩:=loop l 0 0 0 rfl (Nat.zero_le _) (by omega) (by omega) (by omega) (by omega)
  refine⟨a,b,Ev.bind h0 (Ev.ff (Ev.bind p1.ev (Qa _))),p2,p3,p4,p5,fun h=>?_,fun h=>?_⟩
  ·obtain⟨k1,k2⟩:=p6 ⟨h.1,by have:=h.2.1;omega,by have:=h.2.2;omega⟩
   constructor<;>omega
  ·exact p7 fun q=>h ⟨q.1,by omega,by omega⟩
mutual
def hP:Part->Nat
 |⟨_,_,ps⟩=>bif ps.isEmpty then 0 else 1+hPs ps
def hPs:List Part->Nat
 |[]=>0
 |p::r=>max (hP p) (hPs r)
end
theorem QlU(p:Part):hP p=bif p.Parts.isEmpty then 0 else 1+hPs p.Parts:=by cases p;rfl
theorem Qic{p:Part}:∀{l:List Part},p∈l->hP p<=hPs l
 |q::r,h=>by
  simp only[hPs]
  rcases List.mem_cons.1 h with rfl|h
  ·omega
  ·have:=Qic h;omega
theorem Qgj{α:Type}(l:List α):((l.length:Int)==0)=l.isEmpty:=by
 cases l<;>simp
 omega
theorem QaU:∀l:List Part,l.length<=szPs l
 |[]=>Nat.le_refl _
 |p::r=>by have:=QaU r;rw[szPs,Qab,List.length_cons];omega
theorem QgC:∀(m:Nat) (l:List Part) (k:Nat),szPs l<=m->k<=17->l.length<=1048576->(∀x∈l,Part.wf x)->Ev (fun n=>F_i n l (k:Int)) ((min (hPs l) k:Nat):Int):=by
 intro m
 induction m using Nat.strongRecOn with
 |_ m ih=>
 intro l k hm hk hl hw
 refine Qae ?_
 show Ev (fun n=>B_i (F_i n) n l (k:Int)) _
 unfold B_i
 have loop:∀(r:List Part) (i:Nat) (a:Nat),l.drop i=r->i<=l.length->a<=k->EvI (fun n=>F_cf n l (k:Int) (F_i n)) ((a:Int),(i:Int)) ((max a (min (hPs r) k):Nat):Int):=by
  intro r
  induction r with
  |nil=>
   intro i a hr hi ha
   refine EvI.done ?_
   unfold F_cf
   simp only[Yi hr hi,cond_false,Option.bind_some]
   refine(Qa _).eq ?_
   simp[hPs]
  |cons p r ihr=>
   intro i a hr hi ha0
   obtain⟨ha,hr'⟩:=QE (by omega) hr
   obtain⟨w1,w2⟩:=YL (hw p ha.mem)
   by_cases hk0:0<k
   ·have e1:IntKind.i64.wrap ((k:Int)-1)=((k-1:Nat):Int):=by rw[Q0 (by omega) (by omega)];omega
    have hs:=QaC ha.mem
    rw[Qab]at hs
    have step:Ev (fun n=>F_cf n l (k:Int) (F_i n) ((a:Int),(i:Int))) (.cont (((max a (min (hP p) k):Nat):Int),((i+1:Nat):Int))):=by
     unfold F_cf
     simp only[ha.lt,cond_true,Yu (show(0:Int)<(k:Int)by omega),Option.bind_some,ha.ix,ha.nx,e1,bne,Qgj]
     rw[QlU]
     cases hp:p.Parts.isEmpty with
     |true=>
      simp only[Bool.not_true,cond_false,Option.bind_some,cond_true,Nat.zero_min,Nat.max_zero]
      exact Qa _
     |false=>
      simp only[Bool.not_false,cond_true,cond_false]
      refine Ev.bind (Ev.bind (ih (szPs p.Parts) (by omega) p.Parts (k-1) (Nat.le_refl _) (by omega) w1 w2) (Qa _)) ((Qa _).eq ?_)
      have e2:IntKind.i64.wrap (1+((min (hPs p.Parts) (k-1):Nat):Int))=((1+min (hPs p.Parts) (k-1):Nat):Int):=by rw[Q0 (by omega) (by omega)];omega
      rw[e2]
      congr 2
      split<;>omega
    refine(EvI.cont step (ihr (i+1) _ hr' (by have:=ha.lt';omega) (by omega))).eq ?_
    rw[hPs]
    omega
   ·have:k=0:=by omega
    subst this
    refine EvI.done ?_
    unfold F_cf
    simp only[ha.lt,cond_true,Yy (show¬(0:Int)<((0:Nat):Int)by omega),Option.bind_some,cond_false]
    have e0:max a (min (hPs (p::r)) 0)=a:=by omega
    rw[e0]
    exact Qa _
 refine Ev.bind ((loop l 0 0 rfl (Nat.zero_le _) (Nat.zero_le _)).ev) ((Qa _).eq ?_)
 omega
theorem QgD:∀(m:Nat) (l:List Part),szPs l<=m->l.length<=1048576->(∀x∈l,Part.wf x)->Ev (fun n=>F_m n l) ((min (szPs l) 257:Nat):Int):=by
 intro m
 induction m using Nat.strongRecOn with
 |_ m ih=>
 intro l hm hl hw
 refine Qae ?_
 show Ev (fun n=>B_m (F_m n) n l) _
 unfold B_m
 have loop:∀(r:List Part) (i:Nat) (a:Nat),l.drop i=r->i<=l.length->a<=1048576->∃b:Nat,EvI (fun n=>F_eq n l (F_m n)) ((a:Int),(i:Int)) (b:Int)/\min b 257=min (a+(szPs r-r.length)) 257:=by
  intro r
  induction r with
  |nil=>
   intro i a hr hi _
   refine⟨a,EvI.done ?_,by simp[szPs]⟩
   unfold F_eq
   simp only[Yi hr hi,cond_false,Option.bind_some]
   exact Qa _
  |cons p r ihr=>
   intro i a hr hi ha0
   obtain⟨ha,hr'⟩:=QE (by omega) hr
   obtain⟨w1,w2⟩:=YL (hw p ha.mem)
   have hs:=QaC ha.mem
   rw[Qab]at hs
   have hr2:=QaU r
   by_cases hlim:a<=256
   ·obtain⟨b,p1,p2⟩:=ihr (i+1) (a+min (szPs p.Parts) 257) hr' (by have:=ha.lt';omega) (by omega)
    refine⟨b,EvI.cont ?_ p1,?_⟩
    ·unfold F_eq
     simp only[ha.lt,cond_true,Yu (show(a:Int)<=256 by omega),Option.bind_some,ha.ix,ha.nx]
     refine Ev.bind (ih (szPs p.Parts) (by omega) p.Parts (Nat.le_refl _) w1 w2) ((Qa _).eq ?_)
     rw[Q0 (by omega) (by omega)]
     congr 2
     all_goals omega
    ·rw[p2,szPs,Qab,List.length_cons]
     omega
   ·refine⟨a,EvI.done ?_,by omega⟩
    unfold F_eq
    simp only[ha.lt,cond_true,Yy (show¬(a:Int)<=256 by omega),Option.bind_some,cond_false]
    exact Qa _
 obtain⟨b,p1,p2⟩:=loop l 0 l.length rfl (Nat.zero_le _) hl
 refine Ev.bind p1.ev ((Qa _).eq ?_)
 have:=QaU l
 split<;>omega
theorem Qkf:∀(m:Nat) (l:List Part) (k:Nat),szPs l<=m->hPs l<=k->k<=17->szPs l<=256->(∀x∈l,Part.wf x)->Ev (fun n=>F_k n l (k:Int)) ((hPs l:Int),(szPs l:Int)):=by
 intro m
 induction m using Nat.strongRecOn with
 |_ m ih=>
 intro l k hm hk hk17 hs256 hw
 have hlen:=QaU l
 refine Qae ?_
 show Ev (fun n=>B_k (F_k n) n l (k:Int)) _
 unfold B_k
 have loop:∀(r:List Part) (i:Nat) (a b:Nat),l.drop i=r->i<=l.length->a<=17->b+(szPs r-r.length)<=256->EvI (fun n=>F_dg n l (k:Int) (F_k n)) ((a:Int),(b:Int),(i:Int)) (((max a (hPs r):Nat):Int),((b+(szPs r-r.length):Nat):Int)):=by
  intro r
  induction r with
  |nil=>
   intro i a b hr hi _ _
   refine EvI.done ?_
   unfold F_dg
   simp only[Yi hr hi,cond_false,Option.bind_some]
   refine(Qa _).eq ?_
   simp[hPs,szPs]
  |cons p r ihr=>
   intro i a b hr hi ha0 hb0
   obtain⟨ha,hr'⟩:=QE (by omega) hr
   obtain⟨w1,w2⟩:=YL (hw p ha.mem)
   have hs:=QaC ha.mem
   have hh:=Qic ha.mem
   rw[Qab]at hs
   have hr2:=QaU r
   rw[szPs,Qab,List.length_cons]at hb0
   have step:Ev (fun n=>F_dg n l (k:Int) (F_k n) ((a:Int),(b:Int),(i:Int))) (.cont (((max a (hP p):Nat):Int),((b+szPs p.Parts:Nat):Int),((i+1:Nat):Int))):=by
    unfold F_dg
    simp only[ha.lt,cond_true,ha.ix,Option.bind_some,ha.nx,Qgj]
    rw[QlU]at hh⊢
    cases hp:p.Parts.isEmpty with
    |true=>
     have e0:p.Parts=[]:=by simpa using hp
     simp only[cond_true,Option.bind_some]
     rw[e0]
     simp only[szPs,Nat.add_zero,Nat.max_zero]
     exact Qa _
    |false=>
     rw[hp]at hh
     simp only[cond_false]at hh⊢
     have hk0:0<k:=by omega
     have e1:IntKind.i64.wrap ((k:Int)-1)=((k-1:Nat):Int):=by rw[Q0 (by omega) (by omega)];omega
     have e2:((k:Int)==0)=false:=beq_false_of_ne (by omega)
     rw[e2,Yy (show¬(256:Int)<(b:Int)by omega),e1]
     simp only[cond_false,Option.bind_some]
     refine Ev.bind (Ev.bind (ih (szPs p.Parts) (by omega) p.Parts (k-1) (Nat.le_refl _) (by omega) (by omega) (by omega) w2) (Qa _)) ((Qa _).eq ?_)
     have e3:IntKind.i64.wrap ((hPs p.Parts:Int)+1)=((hPs p.Parts+1:Nat):Int):=Qaw (by omega)
     have e4:IntKind.i64.wrap ((b:Int)+(szPs p.Parts:Int))=((b+szPs p.Parts:Nat):Int):=by rw[Q0 (by omega) (by omega)];omega
     simp only[e3,e4]
     congr 2
     split<;>omega
   refine(EvI.cont step (ihr (i+1) _ _ hr' (by have:=ha.lt';omega) (by omega) (by omega))).eq ?_
   rw[hPs,szPs,Qab,List.length_cons]
   congr 1<;>omega
 refine Ev.bind ((loop l 0 0 l.length rfl (Nat.zero_le _) (by omega) (by omega)).ev) ((Qa _).eq ?_)
 congr 1<;>omega
def repS:Nat->List Int->List Int->List Int
 |0,out,_=>out
 |k+1,out,lap=>if 256<out.length then out else repS k (out++lap) lap
mutual
def lapS:Part->List Int
 |⟨m,laps,ps⟩=>bif decide (0<laps)then expS [] ps else[m]
def expS:List Int->List Part->List Int
 |out,[]=>out
 |out,p::r=>expS (repS (p.Laps.toNat+(bif decide (0<p.Laps)then 0 else 1)) out (lapS p)) r
end
theorem Qdu(p:Part):lapS p=bif decide (0<p.Laps)then expS [] p.Parts else[p.Mat]:=by cases p;rfl
theorem QdQ{k:Nat}{out lap:List Int}(h:256<out.length):repS k out lap=out:=by
 cases k with
 |zero=>rfl
 |succ k=>rw[repS,if_pos h]
theorem QgB:∀(l:List Part) {out:List Int},256<out.length->expS out l=out
 |[],out,h=>by rw[expS]
 |p::r,out,h=>by rw[expS,QdQ h];exact QgB r h
theorem QdP:∀(k:Nat) (out lap:List Int),(repS k out lap).length<=max out.length (256+lap.length)
 |0,out,lap=>by rw[repS];omega
 |k+1,out,lap=>by
  rw[repS]
  split
  ·omega
  ·have:=QdP k (out++lap) lap
   rw[List.length_append]at this
   omega
theorem QgA:∀(m:Nat) (l:List Part) (out:List Int),szPs l<=m->(expS out l).length<=max out.length (256+257*szPs l):=by
 intro m
 induction m using Nat.strongRecOn with
 |_ m ih=>
 intro l
 have lapL:∀p∈l,szPs l<=m->(lapS p).length<=257*szP p:=by
  intro p hp hm
  have hs:=QaC hp
  rw[Qdu,Qab]at*
  cases decide (0<p.Laps)with
  |true=>
   have:=ih (szPs p.Parts) (by omega) p.Parts [] (Nat.le_refl _)
   simp only[cond_true,List.length_nil]at this⊢
   omega
  |false=>simp;omega
 have gen:∀(r:List Part) (out:List Int),(∀p∈r,(lapS p).length<=257*szP p)->(expS out r).length<=max out.length (256+257*szPs r):=by
  intro r
  induction r with
  |nil=>intro out _;rw[expS];omega
  |cons p r ihr=>
   intro out hl
   rw[expS,szPs]
   have h1:=ihr (repS (p.Laps.toNat+(bif decide (0<p.Laps)then 0 else 1)) out (lapS p)) fun q hq=>hl q (by simp[hq])
   have h2:=QdP (p.Laps.toNat+(bif decide (0<p.Laps)then 0 else 1)) out (lapS p)
   have h3:=hl p (by simp)
   omega
 intro out hm
 exact gen l out fun p hp=>lapL p hp hm
theorem QjW(p:Part):(lapS p).length<=257*szP p:=by
 rw[Qdu,Qab]
 cases decide (0<p.Laps)with
 |true=>
  have:=QgA _ p.Parts [] (Nat.le_refl _)
  simp only[cond_true,List.length_nil]at this⊢
  omega
 |false=>simp;omega
theorem QiI(kk:Int):∀(m:Nat) (l:List Part),szPs l<=m->szPs l<=256->l.length<=1048576->(∀x∈l,Part.wf x)->partsS kk l=true->Ev (fun n=>F_l n l) (expS [] l):=by
 intro m
 induction m using Nat.strongRecOn with
 |_ m ih=>
 intro l hm hs256 hl hw hv
 rw[QcJ,List.all_eq_true]at hv
 refine Qae ?_
 show Ev (fun n=>B_l (F_l n) n l) _
 unfold B_l
 have inner:∀(p:Part) (lap:List Int) (hp:p.Laps=0\/0<p.Laps/\p.Laps<=64) (hlap:lap.length<=100000) (j:Nat) (k:Nat) (out:List Int),j+k=p.Laps.toNat+(bif decide (0<p.Laps)then 0 else 1)->out.length<=200000->
   ∃res:Ctl (List Int) (Ctl ((List Int)×Int) (Ctl (List Int) (List Int))),EvI (fun n=>F_eh n p lap) (out,(j:Int)) res/\
    (res=.cont (repS k out lap)\/(256<(repS k out lap).length/\res=.done (.done (.done (repS k out lap))))):=by
  intro p lap hp hlap j k
  induction k generalizing j with
  |zero=>
   intro out hj _
   refine⟨_,EvI.done (b:=.cont out) ?_,.inl rfl⟩
   unfold F_eh
   have:¬((j:Int)<if p.Laps<1 then 1 else p.Laps):=by
    rcases hp with h|⟨h,h'⟩
    ·rw[h]at hj⊢;simp at hj⊢;omega
    ·rw[Yu h]at hj;simp at hj;rw[if_neg (by omega)];omega
   rw[Yy this]
   exact Qa _
  |succ k ihk=>
   intro out hj hout
   have hlt:((j:Int)<if p.Laps<1 then 1 else p.Laps):=by
    rcases hp with h|⟨h,h'⟩
    ·rw[h]at hj⊢;simp at hj⊢;omega
    ·rw[Yu h]at hj;simp at hj;rw[if_neg (by omega)];omega
   have hj64:j<=64:=by
    rcases hp with h|⟨h,h'⟩
    ·rw[h]at hj;simp at hj;omega
    ·rw[Yu h]at hj;simp at hj;omega
   by_cases hb:256<out.length
   ·refine⟨_,EvI.done (b:=.done (.done (.done out))) ?_,.inr ⟨by rw[QdQ hb];exact hb,by rw[QdQ hb]⟩⟩
    unfold F_eh
    rw[Yu hlt,Yu (show(256:Int)<(out.length:Int)by omega)]
    exact Qa _
   ·obtain⟨res,p1,p2⟩:=ihk (j+1) (out++lap) (by omega) (by rw[List.length_append];omega)
    refine⟨res,EvI.cont ?_ p1,by rw[repS,if_neg hb];exact p2⟩
    unfold F_eh
    rw[Yu hlt,Yy (show¬(256:Int)<(out.length:Int)by omega)]
    refine Qio (Ev.ff (QaK (QgM out lap (by omega)) ?_))
    rw[Qaw (by omega)]
    exact Qa _
 have loop:∀(r:List Part) (i:Nat) (out:List Int),l.drop i=r->i<=l.length->out.length<=100000->
   ∃res:Ctl (List Int) (List Int),EvI (fun n=>F_di n l (F_l n)) (out,(i:Int)) res/\(res=.cont (expS out r)\/res=.done (expS out r)):=by
  intro r
  induction r with
  |nil=>
   intro i out hr hi _
   refine⟨.cont out,EvI.done ?_,.inl (by rw[expS])⟩
   unfold F_di
   simp only[Yi hr hi,cond_false]
   exact Qa _
  |cons p r ihr=>
   intro i out hr hi hout
   obtain⟨ha,hr'⟩:=QE (by omega) hr
   have hlt:=ha.lt'
   have hs:=QaC ha.mem
   obtain⟨w1,w2⟩:=YL (hw p ha.mem)
   have hp:=hv p ha.mem
   rw[QdU]at hp
   have hlaps:p.Laps=0\/0<p.Laps/\p.Laps<=64:=by
    cases h0:(p.Laps==0)with
    |true=>exact .inl (by simpa using h0)
    |false=>
     rw[h0]at hp
     simp only[cond_false,inR,Bool.and_eq_true,decide_eq_true_eq]at hp
     exact .inr ⟨by omega,by omega⟩
   have hll:=QjW p
   have hb:Ev (fun n=>((bif decide (0<p.Laps)then(F_l n p.Parts).bind fun r62=>some r62 else some [p.Mat]):Option (List Int))) (lapS p):=by
    rw[Qdu]
    refine Qbx (fun h=>?_) (fun _=>Qa _)
    rw[Qab]at hs
    refine Ev.bind (ih (szPs p.Parts) (by omega) p.Parts (Nat.le_refl _) (by omega) w1 w2 ?_) (Qa _)
    have:(p.Laps==0)=false:=by
     simp only[decide_eq_true_eq]at h
     exact beq_false_of_ne (by omega)
    rw[this]at hp
    simp only[cond_false,Bool.and_eq_true]at hp
    exact hp.2.2.2
   obtain⟨res,p1,p2⟩:=inner p (lapS p) hlaps (by omega) 0 _ out (Nat.zero_add _) (by omega)
   rw[expS]
   rcases p2 with rfl|⟨hbig,rfl⟩
   ·obtain⟨res2,q1,q2⟩:=ihr (i+1) (repS (p.Laps.toNat+(bif decide (0<p.Laps)then 0 else 1)) out (lapS p)) hr' (by omega) (by
     have:=QdP (p.Laps.toNat+(bif decide (0<p.Laps)then 0 else 1)) out (lapS p)
     omega)
    refine⟨res2,EvI.cont ?_ q1,q2⟩
    unfold F_di
    simp only[ha.lt,cond_true,ha.ix,Option.bind_some,ha.nx]
    exact Ev.bind hb (Ev.bind p1.ev (Qa _))
   ·refine⟨.done (repS (p.Laps.toNat+(bif decide (0<p.Laps)then 0 else 1)) out (lapS p)),EvI.done ?_,.inr (by rw[QgB r hbig])⟩
    unfold F_di
    simp only[ha.lt,cond_true,ha.ix,Option.bind_some,ha.nx]
    exact Ev.bind hb (Ev.bind p1.ev (Qa _))
 obtain⟨res,p1,p2⟩:=loop l 0 [] rfl (Nat.zero_le _) (by simp)
 rcases p2 with rfl|rfl
 ·exact Ev.bind p1.ev (Qa _)
 ·exact Ev.bind p1.ev (Qa _)
def kindAt(c:Course)(m:Int):Int:=((c.Mats[m.toNat]?).map (·.Kind)).getD 0
def hasLeg(c:Course)(a b:Int):Bool:=c.Legs.any fun l=>(l.From==a)&&(l.To==b)
def rokS(c:Course)(len:Nat):Nat->Int->List Int->Bool
 |_,_,[]=>true
 |i,prev,m::r=>((kindAt c m==1)==decide (i=0))&&(((kindAt c m==3)==decide (i+1=len))&&((decide (i=0)||hasLeg c prev m)&&rokS c len (i+1) m r))
def routeR(c:Course)(d:Distance)(r:List Int):Bool:=
 (decide (2<=r.length)&&decide (r.length<=256))&&(rokS c r.length 0 0 r&&((bif decide (0<=d.Extra)then !((r.count d.Extra:Int)==0)&&((kindAt c d.Extra==2)&&hasLeg c d.Extra d.Extra)else true)&&d.Cutoffs.all fun x=>decide (x.Lap<=(r.count x.Mat:Int))))
def routeS(c:Course)(d:Distance):Bool:=routeR c d (expS [] d.Route)
def cntM(l:List Int):List (Int×Int):=l.foldl (fun m k=>Q8 m k (QR m k 0+1)) []
theorem QiP(l:List Int)(k:Int):cntM (l++[k])=Q8 (cntM l) k (QR (cntM l) k 0+1):=by unfold cntM;rw[List.foldl_append];rfl
theorem Qem(l:List Int)(k:Int):QR (cntM l) k 0=(l.count k:Int):=by
 have gen:∀(l:List Int) (m:List (Int×Int)),QR (l.foldl (fun m k=>Q8 m k (QR m k 0+1)) m) k 0=QR m k 0+(l.count k:Int):=by
  intro l
  induction l with
  |nil=>intro m;simp
  |cons x l ih=>
   intro m
   rw[List.foldl_cons,ih,QdZ,List.count_cons]
   by_cases h:k=x
   ·subst h;simp;omega
   ·have:(x==k)=false:=beq_false_of_ne fun e=>h e.symm
    simp[h,this]
 have:=gen l []
 simpa[cntM,QiC]using this
theorem Qhi(kk:Int):∀(m:Nat) (l:List Part) (out:List Int),szPs l<=m->partsS kk l=true->(∀x∈out,0<=x/\x<=kk)->∀x∈expS out l,0<=x/\x<=kk:=by
 intro m
 induction m using Nat.strongRecOn with
 |_ m ih=>
 intro l
 have rep:∀(k:Nat) (out lap:List Int),(∀x∈out,0<=x/\x<=kk)->(∀x∈lap,0<=x/\x<=kk)->∀x∈repS k out lap,0<=x/\x<=kk:=by
  intro k
  induction k with
  |zero=>intro out lap h1 _;rw[repS];exact h1
  |succ k ihk=>
   intro out lap h1 h2
   rw[repS]
   split
   ·exact h1
   ·refine ihk _ _ ?_ h2
    intro x hx
    rcases List.mem_append.1 hx with h|h
    ·exact h1 x h
    ·exact h2 x h
 have gen:∀(r:List Part) (out:List Int),szPs r<=m->partsS kk r=true->(∀x∈out,0<=x/\x<=kk)->∀x∈expS out r,0<=x/\x<=kk:=by
  intro r
  induction r with
  |nil=>intro out _ _ h;rw[expS];exact h
  |cons p r ihr=>
   intro out hm hv h
   rw[szPs,Qab]at hm
   rw[partsS,Bool.and_eq_true]at hv
   obtain⟨hp,hr⟩:=hv
   rw[expS]
   refine ihr _ (by omega) hr (rep _ _ _ h ?_)
   rw[Qdu]
   rw[QdU]at hp
   cases h0:(p.Laps==0)with
   |true=>
    have e0:p.Laps=0:=by simpa using h0
    rw[h0,cond_true,Bool.and_eq_true]at hp
    have:=hp.1
    unfold inR at this
    simp only[Bool.and_eq_true,decide_eq_true_eq]at this
    rw[e0]
    intro x hx
    simp at hx
    subst hx
    exact this
   |false=>
    rw[h0]at hp
    simp only[cond_false,Bool.and_eq_true,inR,decide_eq_true_eq]at hp
    rw[Yu (show 0<p.Laps by omega),cond_true]
    exact ih (szPs p.Parts) (by omega) p.Parts [] (Nat.le_refl _) hp.2.2.2 (by simp)
 exact fun out hm hv h=>gen l out hm hv h
theorem Qh8{c:Course}{m:Int}(h0:0<=m)(h1:m<=(c.Mats.length:Int)-1):∃x:Mat,idx c.Mats m=some x/\x.Kind=kindAt c m:=by
 obtain⟨k,rfl⟩:∃k:Nat,m=(k:Int):=⟨m.toNat,by omega⟩
 have hlt:k<c.Mats.length:=by omega
 refine⟨c.Mats[k],Qbd (List.getElem?_eq_getElem hlt),?_⟩
 unfold kindAt
 rw[Int.toNat_natCast,List.getElem?_eq_getElem hlt];rfl
theorem Qgk(c:Course)(a b:Int):QR (QW legKey true c.Legs) {from_:=a,to_:=b} false=hasLeg c a b:=by
 rw[Qc4]
 unfold hasLeg
 by_cases h:({from_:=a,to_:=b}:typing_ends)∈c.Legs.map legKey
 ·rw[if_pos h]
  obtain⟨l,hl,e⟩:=List.mem_map.1 h
  unfold legKey at e
  obtain⟨e1,e2⟩:=ends_eq.1 e
  exact(List.any_eq_true.2 ⟨l,hl,by simp[e1,e2]⟩).symm
 ·rw[if_neg h]
  symm
  rw[Bool.eq_false_iff]
  intro q
  obtain⟨l,hl,e⟩:=List.any_eq_true.1 q
  simp only[Bool.and_eq_true,beq_iff_eq]at e
  exact h (List.mem_map.2 ⟨l,hl,by unfold legKey;rw[e.1,e.2]⟩)
structure NumOk (c:Course):Prop where
 kinds:∀m∈c.Mats,1<=m.Kind/\m.Kind<=3
 dist:∀d∈c.Distances,-1<=d.Extra/\d.Extra<=(c.Mats.length:Int)-1/\partsS ((c.Mats.length:Int)-1) d.Route=true
theorem QkT{c:Course}(h:numbersS c=true):NumOk c:=by
 unfold numbersS at h
 simp only[Bool.and_eq_true,List.all_eq_true]at h
 refine⟨fun m hm=>?_,fun d hd=>?_⟩
 ·have:=h.1 m hm
  unfold inR at this
  simpa using this
 ·have:=h.2.2.2.1 d hd
  unfold distS at this
  simp only[Bool.and_eq_true]at this
  obtain⟨_,h2,h3,_⟩:=this
  unfold inR at h2
  simp only[Bool.and_eq_true,decide_eq_true_eq]at h2
  exact⟨h2.1,h2.2,h3⟩
theorem QmK{c:Course}(q:NumOk c){d:Distance}(hd:d∈c.Distances):∀x∈expS [] d.Route,0<=x/\x<=(c.Mats.length:Int)-1:=
 Qhi _ _ d.Route [] (Nat.le_refl _) (q.dist d hd).2.2 (by simp)
theorem QjA(c:Course)(len i:Nat)(prev m:Int)(r:List Int):rokS c len i prev (m::r)=(((kindAt c m==1)==decide (i=0))&&(((kindAt c m==3)==decide (i+1=len))&&((decide (i=0)||hasLeg c prev m)&&rokS c len (i+1) m r))):=rfl
theorem Qlg(i:Nat):((i:Int)==0)=decide (i=0):=by
 rw[Bool.eq_iff_iff];simp
theorem QeD(c:Course)(r:List Int)(hr2:2<=r.length)(hr:r.length<=256)(hm:∀x∈r,0<=x/\x<=(c.Mats.length:Int)-1):
  Ev (fun n=>iter (F_bc n c (QW legKey true c.Legs) r) n ([],0)) (bif rokS c r.length 0 0 r then .cont (cntM r)else .done false):=by
 have loop:∀(t:List Int) (i:Nat) (prev:Int),r.drop i=t->i<=r.length->(0<i->At r (i-1) prev)->EvI (fun n=>F_bc n c (QW legKey true c.Legs) r) (cntM (r.take i),(i:Int)) (bif rokS c r.length i prev t then .cont (cntM r)else .done false):=by
  intro t
  induction t with
  |nil=>
   intro i prev ht hi _
   refine EvI.done ?_
   unfold F_bc
   simp only[Yi ht hi,cond_false,rokS,cond_true]
   have:r.length<=i:=by simpa using ht
   rw[List.take_of_length_le this]
   exact Qa _
  |cons m t ih=>
   intro i prev ht hi hp
   obtain⟨ha,ht'⟩:=QE (by omega) ht
   have hlt:=ha.lt'
   obtain⟨h0,h1⟩:=hm m ha.mem
   obtain⟨x,e1,e2⟩:=Qh8 h0 h1
   have e3:IntKind.i64.wrap ((r.length:Int)-1)=((r.length-1:Nat):Int):=by rw[Q0 (by omega) (by omega)];omega
   have e4:((i:Int)==((r.length-1:Nat):Int))=decide (i+1=r.length):=by rw[Bool.eq_iff_iff];simp;omega
   have hc:Ev (fun n:Nat=>((bif ((x.Kind==1) != ((i:Int)==0))then some true else(bif ((x.Kind==3) != ((i:Int)==(IntKind.i64.wrap ((r.length:Int)-1))))then some true else(bif decide (0<(i:Int))then(idx r (IntKind.i64.wrap ((i:Int)-1))).bind fun x57=>(some (QR (QW legKey true c.Legs) ({from_:=x57,to_:=m:typing_ends}) false)).bind fun v58=>some (!v58)else some false))):Option Bool))
     (!(((kindAt c m==1)==decide (i=0))&&(((kindAt c m==3)==decide (i+1=r.length))&&(decide (i=0)||hasLeg c prev m)))):=by
    rw[e2,e3,e4,Qlg]
    refine Ev.eq (QaJ fun _=>QaJ fun _=>Qbx (v:= !hasLeg c prev m) (w:=false) (fun h=>?_) fun _=>Qa _) ?_
    ·have hi0:0<i:=by simpa using h
     have e5:IntKind.i64.wrap ((i:Int)-1)=((i-1:Nat):Int):=by rw[Q0 (by omega) (by omega)];omega
     rw[e5,(hp hi0).ix]
     simp only[Option.bind_some,Qgk]
     exact Qa _
    ·have e6:decide (0<(i:Int))= !decide (i=0):=by rw[Bool.eq_iff_iff];simp;omega
     rw[e6]
     cases(kindAt c m==1)<;>cases decide (i=0)<;>cases(kindAt c m==3)<;>cases decide (i+1=r.length)<;>cases hasLeg c prev m<;>rfl
   have hcnt:IntKind.i64.wrap (QR (cntM (r.take i)) m 0+1)=QR (cntM (r.take i)) m 0+1:=by
    rw[Qem]
    have:(r.take i).count m<=i:=by have:=List.count_le_length (a:=m) (l:=r.take i);simp at this;omega
    exact Q0 (by omega) (by omega)
   have step:Ev (fun n=>F_bc n c (QW legKey true c.Legs) r (cntM (r.take i),(i:Int))) (bif ((kindAt c m==1)==decide (i=0))&&(((kindAt c m==3)==decide (i+1=r.length))&&(decide (i=0)||hasLeg c prev m))then .cont (cntM (r.take (i+1)),((i+1:Nat):Int))else .done (.done false)):=by
    unfold F_bc
    simp only[ha.lt,cond_true,ha.ix,Option.bind_some,ha.nx,e1]
    refine Ev.bind hc ?_
    rw[hcnt, <- QiP, <- ha.take]
    cases(((kindAt c m==1)==decide (i=0))&&(((kindAt c m==3)==decide (i+1=r.length))&&(decide (i=0)||hasLeg c prev m)))<;>exact Qa _
   have e7:rokS c r.length i prev (m::t)=((((kindAt c m==1)==decide (i=0))&&(((kindAt c m==3)==decide (i+1=r.length))&&(decide (i=0)||hasLeg c prev m)))&&rokS c r.length (i+1) m t):=by rw[QjA];simp only[Bool.and_assoc]
   rw[e7]
   cases hv:(((kindAt c m==1)==decide (i=0))&&(((kindAt c m==3)==decide (i+1=r.length))&&(decide (i=0)||hasLeg c prev m)))with
   |false=>
    rw[hv]at step
    exact EvI.done step
   |true=>
    rw[hv]at step
    rw[Bool.true_and]
    exact EvI.cont step (ih (i+1) m ht' (by omega) (fun _=>by simpa using ha))
 exact(loop r 0 0 rfl (Nat.zero_le _) (by omega)).ev
theorem Qhu(c:Course)(w:CourseOk c)(q:NumOk c)(d:Distance)(hd:d∈c.Distances)(hw:∀x∈d.Route,Part.wf x)(hs:szPs d.Route<=256):
  Ev (fun n=>F_as n c d (QW legKey true c.Legs)) (routeS c d):=by
 have hlen:=QaU d.Route
 have hm:=QmK q hd
 have hel:=QgA _ d.Route [] (Nat.le_refl _)
 unfold F_as routeS
 refine Ev.bind (QiI _ _ d.Route (Nat.le_refl _) hs (by omega) hw (q.dist d hd).2.2) ?_
 generalize expS [] d.Route=r at hm hel⊢
 unfold routeR
 have e3:IntKind.i64.wrap ((r.length:Int)-1)=(r.length:Int)-1:=by
  have:r.length<=1048576:=by simp at hel;omega
  exact Qb4 this
 rw[e3]
 have e0:(decide ((r.length:Int)-1<1)||decide (256<=(r.length:Int)-1))= !(decide (2<=r.length)&&decide (r.length<=256)):=by
  rw[Bool.eq_iff_iff];simp;omega
 refine Ev.bind (Ev.eq (QaJ fun _=>Qa _) e0) ?_
 cases hq:(decide (2<=r.length)&&decide (r.length<=256))with
 |false=>exact Qa _
 |true=>
  simp only[Bool.and_eq_true,decide_eq_true_eq]at hq
  rw[Bool.true_and]
  refine Ev.ff (Ev.bind (QeD c r hq.1 hq.2 hm) ?_)
  cases rokS c r.length 0 0 r with
  |false=>exact Qa _
  |true=>
   simp only[cond_true,Bool.true_and]
   have hx:Ev (fun n:Nat=>((bif decide (0<=d.Extra)then(some (QR (cntM r) d.Extra 0)).bind fun v71=>(bif (v71==0)then some true else(idx c.Mats d.Extra).bind fun x73=>(bif (x73.Kind != 2)then some true else(some (QR (QW legKey true c.Legs) ({from_:=d.Extra,to_:=d.Extra:typing_ends}) false)).bind fun v75=>some (!v75)))else some false):Option Bool))
     (!(bif decide (0<=d.Extra)then !((r.count d.Extra:Int)==0)&&((kindAt c d.Extra==2)&&hasLeg c d.Extra d.Extra)else true)):=by
    rw[Qem]
    cases h0:decide (0<=d.Extra)with
    |false=>exact Qa _
    |true=>
     obtain⟨x,e1,e2⟩:=Qh8 (c:=c) (m:=d.Extra) (by simpa using h0) (q.dist d hd).2.1
     simp only[cond_true,Option.bind_some,e1,Qgk,e2]
     refine Ev.eq (QaJ fun _=>QaJ fun _=>Qa _) ?_
     rw[bne]
     cases((r.count d.Extra:Int)==0)<;>cases(kindAt c d.Extra==2)<;>cases hasLeg c d.Extra d.Extra<;>rfl
   refine Ev.bind hx ?_
   cases(bif decide (0<=d.Extra)then !((r.count d.Extra:Int)==0)&&((kindAt c d.Extra==2)&&hasLeg c d.Extra d.Extra)else true)with
   |false=>exact Qa _
   |true=>
    rw[Bool.true_and]
    refine Ev.ff (Ev.bind ?_ (Qa _))
    unfold F_cx F_es F_cl
    refine YQ d.Cutoffs _ (fun n x=>F_bi n x (cntM r)) (by have:=w.cut d hd;omega) fun x _=>?_
    unfold F_bi
    rw[Qem]
    exact Qa _
theorem QcW{a b:Nat}(h:a+b<=4611686018427387904):IntKind.i64.wrap ((a:Int)+(b:Int))=((a+b:Nat):Int):=by
 rw[Q0 (by omega) (by omega)];omega
def lensC(c:Course):Nat:=c.Mats.length+c.Legs.length+c.Distances.length+c.Waves.length+c.Offences.length+c.Categories.length+c.Prizes.length
def fewD(d:Distance):Prop:=d.Cutoffs.length<=200/\szPs d.Route<=200/\hPs d.Route<=16
structure FewOk (c:Course):Prop where
 lens:lensC c<=200
 name:c.Name.length<=100
 dist:∀d∈c.Distances,fewD d
 ties:c.Ties.length<=200
theorem QfF(c:Course)(w:CourseOk c)(q:PartsOk c)(hl:c.Ties.length<=1048576)(hw:∀x∈c.Ties,Step.wf x):∃b,Ev (fun n=>F_ac n c) b/\(b=true->FewOk c):=by
 have hm:=w.mats
 have hg:=w.legs
 have hd:=w.dist
 have hv:=w.wave
 have ho:=w.off
 have hc:=w.cat
 have hp:=w.prize
 have loop:∀(t:List Distance) (i s:Nat),c.Distances.drop i=t->i<=c.Distances.length->∃res:Ctl Int Bool,EvI (fun n=>F_bq n c) ((s:Int),(i:Int)) res/\(res=.done false\/ ∃v:Nat,res=.cont (v:Int)/\(v<=200->s<=v/\ ∀d∈t,fewD d)):=by
  intro t
  induction t with
  |nil=>
   intro i s ht hi
   refine⟨.cont (s:Int),EvI.done ?_,Or.inr ⟨s,rfl,fun _=>⟨Nat.le_refl _,by simp⟩⟩⟩
   unfold F_bq
   simp only[Yi ht hi,cond_false,Option.bind_some]
   exact Qa _
  |cons d t ih=>
   intro i s ht hi
   obtain⟨ha,ht'⟩:=QE (by omega) ht
   have hlt:=ha.lt'
   by_cases hs:s<=200
   ·have hlen:=q.len d ha.mem
    have hwf:=q.wf d ha.mem
    have hcut:=w.cut d ha.mem
    have p1:=QgD _ d.Route (Nat.le_refl _) hlen hwf
    have p2:=QgC _ d.Route 17 (Nat.le_refl _) (Nat.le_refl _) hlen hwf
    have e1:IntKind.i64.wrap ((s:Int)+(d.Cutoffs.length:Int))=((s+d.Cutoffs.length:Nat):Int):=QcW (by omega)
    have e2:IntKind.i64.wrap (((s+d.Cutoffs.length:Nat):Int)+((min (szPs d.Route) 257:Nat):Int))=((s+d.Cutoffs.length+min (szPs d.Route) 257:Nat):Int):=QcW (by omega)
    have step:Ev (fun n=>F_bq n c ((s:Int),(i:Int))) (bif decide ((16:Int)<((min (hPs d.Route) 17:Nat):Int))then .done (.done false)else .cont (((s+d.Cutoffs.length+min (szPs d.Route) 257:Nat):Int),((i+1:Nat):Int))):=by
     unfold F_bq
     simp only[ha.lt,cond_true,ha.ix,Option.bind_some,ha.nx,Yu (show(s:Int)<=200 by omega)]
     refine Ev.bind p1 (Ev.bind p2 ?_)
     rw[e1,e2]
     cases decide ((16:Int)<((min (hPs d.Route) 17:Nat):Int))<;>exact Qa _
    by_cases hh:hPs d.Route<=16
    ·rw[Yy (show¬(16:Int)<((min (hPs d.Route) 17:Nat):Int)by omega)]at step
     obtain⟨res,k1,k2⟩:=ih (i+1) (s+d.Cutoffs.length+min (szPs d.Route) 257) ht' (by omega)
     refine⟨res,EvI.cont step k1,?_⟩
     rcases k2 with k2|⟨v,k2,k3⟩
     ·exact Or.inl k2
     ·refine Or.inr ⟨v,k2,fun hv=>?_⟩
      obtain⟨k4,k5⟩:=k3 hv
      refine⟨by omega,fun x hx=>?_⟩
      rcases List.mem_cons.1 hx with rfl|hx
      ·exact⟨by omega,by omega,hh⟩
      ·exact k5 x hx
    ·rw[Yu (show(16:Int)<((min (hPs d.Route) 17:Nat):Int)by omega)]at step
     exact⟨.done false,EvI.done step,Or.inl rfl⟩
   ·refine⟨.cont (s:Int),EvI.done ?_,Or.inr ⟨s,rfl,fun h=>absurd h hs⟩⟩
    unfold F_bq
    simp only[ha.lt,cond_true,Yy (show¬(s:Int)<=200 by omega),Option.bind_some,cond_false]
    exact Qa _
 obtain⟨res,k1,k2⟩:=loop c.Distances 0 (lensC c) rfl (Nat.zero_le _)
 have e:IntKind.i64.wrap ((IntKind.i64.wrap ((IntKind.i64.wrap ((IntKind.i64.wrap ((IntKind.i64.wrap ((IntKind.i64.wrap ((c.Mats.length:Int)+(c.Legs.length:Int)))+(c.Distances.length:Int)))+(c.Waves.length:Int)))+(c.Offences.length:Int)))+(c.Categories.length:Int)))+(c.Prizes.length:Int))=(lensC c:Int):=by
  have h1:c.Mats.length+c.Legs.length<=4611686018427387904:=by omega
  have h2:c.Mats.length+c.Legs.length+c.Distances.length<=4611686018427387904:=by omega
  have h3:c.Mats.length+c.Legs.length+c.Distances.length+c.Waves.length<=4611686018427387904:=by omega
  have h4:c.Mats.length+c.Legs.length+c.Distances.length+c.Waves.length+c.Offences.length<=4611686018427387904:=by omega
  have h5:c.Mats.length+c.Legs.length+c.Distances.length+c.Waves.length+c.Offences.length+c.Categories.length<=4611686018427387904:=by omega
  have h6:c.Mats.length+c.Legs.length+c.Distances.length+c.Waves.length+c.Offences.length+c.Categories.length+c.Prizes.length<=4611686018427387904:=by omega
  rw[QcW h1,QcW h2,QcW h3,QcW h4,QcW h5,QcW h6]
  rfl
 unfold F_ac
 rw[e]
 rcases k2 with rfl|⟨v,rfl,k3⟩
 ·exact⟨false,Ev.bind k1.ev (Qa _),fun h=>by cases h⟩
 ·obtain⟨a,b,p1,p2,p3,_,_,_,_⟩:=Qlq _ c.Ties 0 (Nat.le_refl _) (by omega) hl hw
  have hfew:Ev (fun n=>F_bz n c.Ties) (decide ((c.Ties.length:Int)<=20)&&(decide (a<=80)&&decide (b<=300))):=by
   unfold F_bz
   exact Ev.bind p1 (Ev.bind (Ev.and fun _=>Ev.and fun _=>Qa _) (Qa _))
  refine⟨decide ((v:Int)<=200)&&(decide ((c.Name.length:Int)<=100)&&(decide ((c.Ties.length:Int)<=20)&&(decide (a<=80)&&decide (b<=300)))),Ev.bind k1.ev (Ev.bind (Ev.and fun _=>Ev.and fun _=>Ev.bind hfew (Qa _)) (Qa _)),fun h=>?_⟩
  simp only[Bool.and_eq_true,decide_eq_true_eq]at h
  obtain⟨k4,k5⟩:=k3 (by omega)
  exact⟨by omega,by omega,k5,by omega⟩
def fitsS(c:Course):Bool:=
 !(decide (40<(c.Mats.length:Int))||(decide (512<(c.Legs.length:Int))||(decide (8<(c.Distances.length:Int))||(decide (32<(c.Waves.length:Int))||(decide (32<(c.Offences.length:Int))||(decide (32<(c.Categories.length:Int))||decide (32<(c.Prizes.length:Int))))))))
  &&c.Distances.all fun d=> !decide (64<(d.Cutoffs.length:Int))
theorem Qls(c:Course)(w:CourseOk c)(q:PartsOk c)(k:FewOk c):Ev (fun n=>F_al n c) (fitsS c):=by
 unfold F_al fitsS
 refine Ev.bind (QaJ fun _=>QaJ fun _=>QaJ fun _=>QaJ fun _=>QaJ fun _=>QaJ fun _=>Qa _) ?_
 cases(decide (40<(c.Mats.length:Int))||(decide (512<(c.Legs.length:Int))||(decide (8<(c.Distances.length:Int))||(decide (32<(c.Waves.length:Int))||(decide (32<(c.Offences.length:Int))||(decide (32<(c.Categories.length:Int))||decide (32<(c.Prizes.length:Int))))))))with
 |true=>exact Qa _
 |false=>
  rw[Bool.not_false,Bool.true_and]
  refine Ev.ff (Ev.bind (Qjd c.Distances (fun d=> !decide (64<(d.Cutoffs.length:Int))) (Ctl.done false) (Ctl.cont ()) (by have:=w.dist;omega) (fun i x ha=>?_) ?_) ?_)
  ·obtain⟨f1,f2,f3⟩:=k.dist x ha.mem
   unfold F_fh
   simp only[ha.lt,cond_true,ha.ix,Option.bind_some,ha.nx]
   refine Ev.bind (Qkf _ x.Route 17 (Nat.le_refl _) (by omega) (Nat.le_refl _) (by omega) (q.wf x ha.mem)) ?_
   refine Ev.bind (QaJ fun _=>QaJ fun _=>Qa _) ?_
   simp only[Yy (show¬(16:Int)<(hPs x.Route:Int)by omega),Yy (show¬(256:Int)<(szPs x.Route:Int)by omega),Bool.or_false]
   cases decide (64<(x.Cutoffs.length:Int))<;>exact Qa _
  ·unfold F_fh
   simp only[Qdn,cond_false]
   exact Qa _
  ·cases(c.Distances.all fun d=> !decide (64<(d.Cutoffs.length:Int)))<;>exact Qa _
def courseE(c:Course):Int:=
 bif fitsS c then bif namesS c then bif numbersS c then bif tiesE c.Ties==0 then bif c.Distances.all (routeS c)then 0 else 72 else tiesE c.Ties else 71 else 70 else 2
theorem QiJ(c:Course)(w:CourseOk c)(q:PartsOk c)(k:FewOk c)(hl:c.Ties.length<=1048576)(hw:∀x∈c.Ties,Step.wf x):Ev (fun n=>F_r n c) (courseE c):=by
 unfold F_r courseE
 refine Ev.bind (Qls c w q k) ?_
 cases fitsS c with
 |false=>exact Qa _
 |true=>
 refine Ev.ff (Ev.bind (Qkd c w) ?_)
 cases namesS c with
 |false=>exact Qa _
 |true=>
 refine Ev.ff (Ev.bind (Qht c w q) ?_)
 cases hn:numbersS c with
 |false=>exact Qa _
 |true=>
 refine Ev.ff (Ev.bind (Qlu c.Ties hl hw) ?_)
 rw[bne]
 cases(tiesE c.Ties==0)with
 |false=>exact Qa _
 |true=>
 have hs:Ev (fun n=>iter (F_fc n c) n ([],0)) (QW legKey true c.Legs):=by
  refine Qbk c.Legs legKey true (by have:=w.legs;omega) (fun i x m ha=>?_) (fun m=>?_)
  ·unfold F_fc
   simp only[ha.lt,cond_true,ha.ix,Option.bind_some,ha.nx]
   exact Qa _
  ·unfold F_fc
   simp only[Qdn,cond_false]
   exact Qa _
 refine Ev.ff (Ev.bind hs ?_)
 have ha:Ev (fun n=>F_ap n c.Distances c (QW legKey true c.Legs)) (c.Distances.all (routeS c)):=by
  unfold F_ap F_en F_eb
  refine YQ c.Distances _ (fun n x=>F_bw n x c (QW legKey true c.Legs)) (by have:=w.dist;omega) fun x hx=>?_
  unfold F_bw
  exact Ev.bind (Qhu c w (QkT hn) x hx (q.wf x hx) (by have:=(k.dist x hx).2.1;omega)) (Qa _)
 refine Ev.bind ha ?_
 cases c.Distances.all (routeS c)<;>exact Qa _
theorem Qju(l:List Int)(h:l.length<=4294967296):sortI l=some (Y4 ltI l):=by
 unfold sortI
 rw[Nat.ble_eq_true_of_le (by unfold Yb;exact h)];rfl
def firstI{α:Type}(q:α->Bool):List α->Nat->Int
 |[],_=> -1
 |x::l,i=>bif q x then(i:Int)else firstI q l (i+1)
theorem Ev.first{α:Type}{step:Nat->Int->Option (Ctl Int (Ctl Unit Int))}(l:List α)(q:α->Bool)(hl:l.length<=4611686018427387904)
  (hs:∀i x,At l i x->Ev (fun n=>step n (i:Int)) (bif q x then .done (.done (i:Int))else .cont ((i+1:Nat):Int)))(hd:Ev (fun n=>step n (l.length:Int)) (.done (.cont ()))):
  Ev (fun n=>(Go.Sw.iter (step n) n 0).bind fun b=>match b with|.cont _=>some (-1)|.done v=>some v) (firstI q l 0):=by
 have loop:∀(r:List α) (i:Nat),l.drop i=r->i<=l.length->∃res:Ctl Unit Int,EvI step (i:Int) res/\(match res with|.cont _=>some (-1)|.done v=>some v)=some (firstI q r i):=by
  intro r
  induction r with
  |nil=>
   intro i hr hi
   have:i=l.length:=by have:=List.drop_eq_nil_iff.1 hr;omega
   subst this
   exact⟨.cont (),EvI.done hd,rfl⟩
  |cons x r ih=>
   intro i hr hi
   obtain⟨ha,hr'⟩:=QE hl hr
   have s:=hs i x ha
   unfold firstI
   cases h:q x with
   |true=>
    rw[h]at s
    exact⟨_,EvI.done s,rfl⟩
   |false=>
    rw[h]at s
    obtain⟨res,p1,p2⟩:=ih (i+1) hr' (by have:=ha.lt';omega)
    exact⟨res,EvI.cont s p1,p2⟩
 obtain⟨res,p1,p2⟩:=loop l 0 rfl (Nat.zero_le _)
 exact Ev.bind p1.ev (Ev.const p2)
set_option maxRecDepth 4000
def openU(f:Fact):U_facts_open_rxk:=
 bif f.Kind==1 then .c0 ()else bif f.Kind==2 then .c1 ()else bif f.Kind==3 then .c2 ()else bif f.Kind==4 then .c3 ()else bif f.Kind==5 then .c4 ()else bif f.Kind==6 then .c5 ()
 else bif f.Kind==7 then .c6 ()else bif f.Kind==8 then .c7 ()else bif f.Kind==9 then .c8 ()else bif f.Kind==10 then
  (bif (f.Ruling.Kind==1)||(f.Ruling.Kind==2)then .c9 (0,0,0,0,0,0)else bif f.Ruling.Kind==3 then .c9 (1,9999,0,255,1,1099511627776)else bif f.Ruling.Kind==4 then .c9 (1,9999,0,255,1,64)else .c9 (1,9999,0,255,0,0))
 else bif f.Kind==11 then .c10 ()else bif f.Kind==12 then .c11 ()else bif f.Kind==13 then .c12 ()else .c13 ()
theorem Qh7(n:Nat)(f:Fact)(b:Int):F_x n f b=some (openU f):=by
 unfold F_x openU
 cases(f.Kind==1)with
 |true=>rfl
 |false=>
 cases(f.Kind==2)with
 |true=>rfl
 |false=>
 cases(f.Kind==3)with
 |true=>rfl
 |false=>
 cases(f.Kind==4)with
 |true=>rfl
 |false=>
 cases(f.Kind==5)with
 |true=>rfl
 |false=>
 cases(f.Kind==6)with
 |true=>rfl
 |false=>
 cases(f.Kind==7)with
 |true=>rfl
 |false=>
 cases(f.Kind==8)with
 |true=>rfl
 |false=>
 cases(f.Kind==9)with
 |true=>rfl
 |false=>
 cases(f.Kind==10)with
 |true=>
  cases(f.Ruling.Kind==1)with
  |true=>rfl
  |false=>
  cases(f.Ruling.Kind==2)with
  |true=>rfl
  |false=>
  cases(f.Ruling.Kind==3)with
  |true=>rfl
  |false=>
  cases(f.Ruling.Kind==4)with
  |true=>rfl
  |false=>rfl
 |false=>
 cases(f.Kind==11)with
 |true=>rfl
 |false=>
 cases(f.Kind==12)with
 |true=>rfl
 |false=>
 cases(f.Kind==13)with
 |true=>rfl
 |false=>rfl
def headL:List Ent:=[⟨false,3,1,13⟩,⟨false,0,0,31⟩,⟨false,1,1,1048576⟩,⟨false,2,0,1099511627776⟩]
def bodyL:U_facts_open_rxk->List Ent
 |.c0 _=>[⟨false,4,1,9999⟩,⟨false,5,0,7⟩,⟨false,6,0,31⟩,⟨false,7,(-1099511627776),1099511627776⟩,⟨false,8,0,120⟩,⟨false,9,0,1048576⟩,⟨false,10,0,9999⟩,⟨false,11,0,1048576⟩]
 |.c1 _=>[⟨false,12,0,39⟩,⟨false,13,0,255⟩,⟨false,14,0,1048576⟩,⟨false,15,(-1099511627776),1099511627776⟩]
 |.c2 _=>[⟨false,16,0,39⟩,⟨false,17,0,255⟩,⟨false,18,(-1099511627776),1099511627776⟩,⟨false,19,(-1099511627776),1099511627776⟩,⟨false,20,0,1099511627776⟩]
 |.c3 _=>[⟨false,21,0,39⟩,⟨false,22,0,255⟩,⟨false,23,(-1099511627776),1099511627776⟩,⟨false,24,0,39⟩,⟨false,25,0,255⟩,⟨false,26,(-1099511627776),1099511627776⟩,⟨false,27,(-1099511627776),1099511627776⟩,⟨false,28,(-1099511627776),1099511627776⟩]
 |.c4 _=>[⟨false,29,1,9999⟩,⟨false,30,0,255⟩,⟨false,31,(-1099511627776),1099511627776⟩,⟨false,32,(-1099511627776),1099511627776⟩]
 |.c5 _=>[⟨false,33,0,39⟩,⟨false,34,0,255⟩,⟨false,35,(-1099511627776),1099511627776⟩,⟨false,36,(-1099511627776),1099511627776⟩]
 |.c6 _=>[⟨false,37,1,9999⟩,⟨false,38,1,9999⟩]
 |.c7 _=>[⟨false,39,1,1048576⟩,⟨false,40,1,9999⟩,⟨false,41,0,31⟩,⟨false,42,0,255⟩]
 |.c8 _=>[⟨false,43,1,1048576⟩,⟨false,44,0,9999⟩,⟨false,45,0,1125899906842624⟩,⟨false,46,0,1⟩]
 |.c9 x=>[⟨false,47,1,1048576⟩,⟨false,48,1,2⟩,⟨false,49,1,5⟩,⟨false,50,x.1,x.2.1⟩,⟨false,51,x.2.2.1,x.2.2.2.1⟩,⟨false,52,x.2.2.2.2.1,x.2.2.2.2.2⟩]
 |.c10 _=>[⟨false,53,1,1048576⟩,⟨true,0,0,1⟩]
 |.c11 _=>[]
 |.c12 _=>[⟨false,55,0,31⟩,⟨false,56,1,1048576⟩]
 |.c13 _=>[]
def fineU(f:Fact):U_facts_open_rxk->Bool
 |.c3 _=>decide (f.Sync.Min<=f.Sync.Max)
 |.c4 _=>decide (f.Hand.Lo<=f.Hand.Hi)
 |.c5 _=>decide (f.Silence.Lo<=f.Silence.Hi)
 |.c6 _=>decide (f.Pair.A<f.Pair.B)
 |.c13 _=>false
 |_=>true
def entsS(f:Fact):List Ent:=headL++bodyL (openU f)
def goodE(e:Ent):Bool:=bif e.fl then e.off==0 else decide (e.off<57)&& !(e.off==54)
theorem QiL(f:Fact):∀e∈entsS f,goodE e=true:=by
 have h:∀u:U_facts_open_rxk,(headL++bodyL u).all goodE=true:=by intro u;cases u<;>rfl
 exact List.all_eq_true.1 (h (openU f))
theorem QgF(f:Fact):(entsS f).length<=12:=by
 have h:∀u:U_facts_open_rxk,(headL++bodyL u).length<=12:=by intro u;cases u<;>exact Nat.le_of_ble_eq_true rfl
 exact h (openU f)
def isI:Option A->Bool
 |some (.int .i64 _)=>true
 |_=>false
theorem QmF{x:Option A}(h:isI x=true):∃v,x=some (.int .i64 v):=by
 unfold isI at h
 split at h
 ·exact⟨_,rfl⟩
 ·cases h
theorem Qj3{f:Fact}{b:Int}{e:Ent}(h:goodE e=true):∃v,QeC (Fact.c f) b e=some v:=by
 unfold goodE at h
 unfold QeC
 cases hf:e.fl with
 |true=>
  rw[hf]at h
  simp only[cond_true]at h⊢
  rw[h];exact⟨b,rfl⟩
 |false=>
  rw[hf]at h
  simp only[cond_false,Bool.and_eq_true,decide_eq_true_eq,Bool.not_eq_true']at h⊢
  have all:(List.range 57).all (fun o=>(o==54)||isI (Fact.c f)[o]?)=true:=by rfl
  have:=List.all_eq_true.1 all e.off (List.mem_range.2 h.1)
  rw[h.2,Bool.false_or]at this
  obtain⟨v,hv⟩:=QmF this
  rw[hv];exact⟨v,rfl⟩
theorem QjC{x:Fact}{s v:Int}{e:Ent}(h:goodE e=true):∃q,Qhh Fact.put x s e v=some q:=by
 unfold goodE at h
 unfold Qhh
 cases hf:e.fl with
 |true=>
  rw[hf]at h
  simp only[cond_true]at h⊢
  rw[h];exact⟨_,rfl⟩
 |false=>
  rw[hf]at h
  simp only[cond_false,Bool.and_eq_true,decide_eq_true_eq,Bool.not_eq_true']at h⊢
  have all:(List.range 57).all (fun o=>(o==54)||(Fact.put x o v).isSome)=true:=by rfl
  have:=List.all_eq_true.1 all e.off (List.mem_range.2 h.1)
  rw[h.2,Bool.false_or]at this
  obtain⟨y,hy⟩:=Option.isSome_iff_exists.1 this
  rw[hy];exact⟨_,rfl⟩
def getV(f:Fact)(b:Int)(e:Ent):Int:=(QeC (Fact.c f) b e).getD 0
def putV(x:Fact)(s:Int)(e:Ent)(v:Int):Fact×Int:=(Qhh Fact.put x s e v).getD (x,s)
theorem Qj4{f:Fact}{b:Int}{e:Ent}(h:goodE e=true):QeC (Fact.c f) b e=some (getV f b e):=by
 obtain⟨v,hv⟩:=Qj3 (f:=f) (b:=b) h
 unfold getV
 rw[hv];rfl
theorem Qmk{x:Fact}{s v:Int}{e:Ent}(h:goodE e=true):Qhh Fact.put x s e v=some (putV x s e v):=by
 obtain⟨q,hq⟩:=QjC (x:=x) (s:=s) (v:=v) h
 unfold putV
 rw[hq];rfl
def inE(f:Fact)(b:Int)(e:Ent):Bool:= !(decide (getV f b e<e.lo))&& !(decide (e.hi<getV f b e))
def numR(f:Fact)(b:Int):List Ent->List Int×Fact×Int->Ctl (List Int×Fact×Int) (List Int×Bool)
 |[],a=>.cont a
 |e::r,a=>bif inE f b e then numR f b r (a.1++[getV f b e],putV a.2.1 a.2.2 e (getV f b e))else .done ([],false)
theorem Qcm{α:Type}(l m:List α)(h:l.length+m.length<=1000):app l m=some (l++m):=by
 unfold app
 have:Nat.ble (l.length+m.length) Yb=true:=Nat.ble_eq_true_of_le (Nat.le_trans h (by decide))
 rw[this];rfl
theorem Qlf(f:Fact)(b:Int)(E:List Ent)(hE:∀e∈E,goodE e=true)(hl:E.length<=12):∀(r:List Ent) (i:Nat) (a:List Int×Fact×Int),E.drop i=r->i<=E.length->a.1.length=i->
  EvI (fun n=>F_dl n f b E E) (a.1,a.2.1,a.2.2,(i:Int)) (numR f b r a):=by
 intro r
 induction r with
 |nil=>
  intro i a hr hi ha
  refine EvI.done ?_
  unfold F_dl
  simp only[Yi hr hi,cond_false]
  exact Qa _
 |cons e r ih=>
  intro i a hr hi hal
  obtain⟨ha,hr'⟩:=QE (by omega) hr
  have hg:=hE e ha.mem
  have hlt:=ha.lt'
  unfold numR
  cases hin:inE f b e with
  |true=>
   have h2:=hin
   unfold inE at h2
   simp only[Bool.and_eq_true,Bool.not_eq_true']at h2
   refine EvI.cont ?_ (ih (i+1) (a.1++[getV f b e],putV a.2.1 a.2.2 e (getV f b e)) hr' (by omega) (by simp[hal]))
   unfold F_dl
   simp only[ha.lt,cond_true,ha.ix,Option.bind_some,ha.nx,Qj4 hg,h2.1,h2.2,cond_false,Qmk hg]
   rw[Qcm a.1 [getV f b e] (by simp;omega)]
   exact Qa _
  |false=>
   refine EvI.done ?_
   unfold F_dl
   simp only[ha.lt,cond_true,ha.ix,Option.bind_some,Qj4 hg]
   unfold inE at hin
   cases h1:decide (getV f b e<e.lo)with
   |true=>exact Qa _
   |false=>
    rw[h1]at hin
    simp only[Bool.not_false,Bool.true_and,Bool.not_eq_false']at hin
    simp only[cond_false,hin,cond_true]
    exact Qa _
def suspB(f:Fact):Int:=bif f.Appeal.Suspends then 1 else 0
def restS(f:Fact):Fact:={z_Fact with Ruling:={z_Ruling with Kind:=f.Ruling.Kind:Ruling},Kind:=f.Kind:Fact}
def lastF(f x:Fact)(s:Int):Fact:=
 let y:Fact:=bif f.Kind != 10 then {x with Ruling:={x.Ruling with Kind:=0:Ruling}:Fact}else x
 {y with Appeal:={Case:=y.Appeal.Case,Suspends:=s==1:Appeal}:Fact}
def numF(f:Fact):List Int×Bool:=bif fineU f (openU f)then(match numR f (suspB f) (entsS f) ([],restS f,0)with
  |.cont a=>(a.1,lastF f a.2.1 a.2.2==f)
  |.done r=>r)else([],false)
theorem QiO(n:Nat)(f:Fact):F_au n ({z_Fact with Ruling:={z_Ruling with Kind:=f.Ruling.Kind:Ruling}:Fact}) 0 f=some (entsS f):=by
 have hu:openU ({({z_Fact with Ruling:={z_Ruling with Kind:=f.Ruling.Kind:Ruling}:Fact})with Kind:=f.Kind:Fact})=openU f:=rfl
 unfold F_au entsS
 rw[Qh7]
 simp only[Option.bind_some]
 rw[hu]
 unfold F_z
 generalize openU f=u
 cases u<;>(simp only[Option.bind_some];unfold bodyL;exact congrArg (Option.bind · _) (Qcm _ _ (by simp)))
theorem Qlr(f:Fact):Ev (fun n=>F_ci n f) (numF f):=by
 unfold F_ci
 refine Ev.bind (v:=suspB f) ?_ ?_
 ·unfold suspB
  cases f.Appeal.Suspends<;>exact Qa _
 refine Ev.bind (v:=bif fineU f (openU f)then .cont (bodyL (openU f))else .done ([],false)) ?_ ?_
 ·simp only[Qh7,Option.bind_some]
  unfold F_b F_de F_co F_eo F_ek
  generalize openU f=u
  cases u with
  |c3=>unfold fineU;cases decide (f.Sync.Min<=f.Sync.Max)<;>exact Qa _
  |c4=>unfold fineU;cases decide (f.Hand.Lo<=f.Hand.Hi)<;>exact Qa _
  |c5=>unfold fineU;cases decide (f.Silence.Lo<=f.Silence.Hi)<;>exact Qa _
  |c6=>unfold fineU;cases decide (f.Pair.A<f.Pair.B)<;>exact Qa _
  |_=>exact Qa _
 unfold numF
 cases fineU f (openU f)with
 |false=>exact Qa _
 |true=>
  simp only[cond_true]
  have e:app headL (bodyL (openU f))=some (entsS f):=Qcm _ _ (by have:=QgF f;unfold entsS at this;rw[List.length_append]at this;omega)
  unfold F_z
  simp only[Option.bind_some]
  refine Ev.bind (Ev.const e) ?_
  refine Ev.bind (Ev.const (QiO 0 f)) ?_
  refine Ev.bind (Qlf f (suspB f) (entsS f) (QiL f) (QgF f) (entsS f) 0 ([],restS f,0) rfl (Nat.zero_le _) rfl).ev ?_
  cases numR f (suspB f) (entsS f) ([],restS f,0)with
  |done r=>exact Qa _
  |cont a=>
   simp only
   refine Ev.bind (v:=bif f.Kind != 10 then {a.2.1 with Ruling:={a.2.1.Ruling with Kind:=0:Ruling}:Fact}else a.2.1) ?_ (Qa _)
   cases(f.Kind != 10)<;>exact Qa _
def validS(f:Fact):Bool:=(numF f).2
theorem QeE(f:Fact):Ev (fun n=>F_at n f) (bif validS f then 0 else 120):=by
 unfold F_at
 refine Ev.bind (Qlr f) ?_
 unfold validS
 cases(numF f).2<;>exact Qa _
theorem Qg4{f:Fact}(h:validS f=true):(f.Kind==0)=false:=by
 cases q:(f.Kind==0)with
 |false=>rfl
 |true=>
  have hk:f.Kind=0:=by simpa using q
  have hu:openU f=.c13 ():=by unfold openU;rw[hk];rfl
  unfold validS numF at h
  rw[hu]at h
  cases h
set_option maxRecDepth 4000
def numN(v:Nat):List Int:=if h:128<=v then orI .u8 (IntKind.u8.wrap (v:Int)) 128::numN (v/128)else[IntKind.u8.wrap (v:Int)]
termination_by v
decreasing_by omega
theorem QjO{v:Nat}(h:128<=v):numN v=orI .u8 (IntKind.u8.wrap (v:Int)) 128::numN (v/128):=by
 rw[numN,dif_pos h]
theorem Qhl{v:Nat}(h:¬128<=v):numN v=[IntKind.u8.wrap (v:Int)]:=by
 rw[numN,dif_neg h]
def zigI(x:Int):Int:=Qjj .u64 (shlI .u64 (IntKind.u64.wrap x) 1) (IntKind.u64.wrap (shrI .i64 x 63))
theorem wrapU(x:Int):0<=IntKind.u64.wrap x/\IntKind.u64.wrap x<18446744073709551616:=by
 have e:IntKind.u64.wrap x=x%18446744073709551616:=by
  unfold IntKind.wrap
  rfl
 rw[e]
 omega
theorem Qjh(x:Int):∃z:Nat,zigI x=(z:Int)/\z<18446744073709551616:=by
 have h:=wrapU ((BitVec.ofInt IntKind.u64.bits (shlI .u64 (IntKind.u64.wrap x) 1)^^^BitVec.ofInt IntKind.u64.bits (IntKind.u64.wrap (shrI .i64 x 63))).toNat)
 refine⟨(zigI x).toNat,?_,?_⟩
 ·unfold zigI Qjj;omega
 ·unfold zigI Qjj;omega
def oneB(x:Int):List Int:=1::numN (zigI x).toNat
def listB(l:List Int):List Int:=[3]++numN l.length++(l.map oneB).flatten
def encF(f:Fact):List Int×Int:=bif validS f then(listB (numF f).1,0)else([],120)
def cmpI(a b:Int):Int:=bif decide (a<b)then-1 else bif decide (b<a)then 1 else 0
theorem Qlt(n:Nat)(a b:Int):F_u n a b=some (cmpI a b):=by
 unfold F_u F_ab cmpI
 simp only[Option.bind_some,bne_self_eq_false,cond_false]
 cases decide (a<b)with
 |true=>rfl
 |false=>cases decide (b<a)<;>rfl
def orL:List Int->Int
 |[]=>0
 |x::r=>bif x != 0 then x else orL r
def cmpF(f g:Fact):Int:=bif orL [cmpI f.At g.At,cmpI f.Crew g.Crew,cmpI f.No g.No] != 0 then orL [cmpI f.At g.At,cmpI f.Crew g.Crew,cmpI f.No g.No]else cmpB (encF f).1 (encF g).1
def okS(c:Course)(f:Fact):Bool:=(f.Kind==1)&&(validS f&&(!decide ((c.Distances.length:Int)<=f.Starter.Distance)&& !decide ((c.Waves.length:Int)<=f.Starter.Wave)))
theorem QfH{a b:Int}:cmpI a b<0↔a<b:=by
 unfold cmpI
 by_cases h:a<b
 ·rw[decide_eq_true h];simp[h]
 ·rw[decide_eq_false h]
  by_cases h2:b<a
  ·rw[decide_eq_true h2];simp;omega
  ·rw[decide_eq_false h2];simp;omega
theorem QiQ{a b:Int}:cmpI a b=0↔a=b:=by
 unfold cmpI
 by_cases h:a<b
 ·rw[decide_eq_true h];simp;omega
 ·rw[decide_eq_false h]
  by_cases h2:b<a
  ·rw[decide_eq_true h2];simp;omega
  ·rw[decide_eq_false h2];simp;omega
set_option maxRecDepth 4000
theorem Qle(f:Fact)(b:Int):∀(E:List Ent) (a:List Int×Fact×Int),numR f b E a=bif E.all (inE f b)then .cont (a.1++E.map (getV f b),E.foldl (fun p e=>putV p.1 p.2 e (getV f b e)) a.2)else .done ([],false):=by
 intro E
 induction E with
 |nil=>intro a;simp[numR]
 |cons e E ih=>
  intro a
  unfold numR
  rw[List.all_cons]
  cases h:inE f b e with
  |false=>rfl
  |true=>
   simp only[cond_true,Bool.true_and,List.map_cons,List.foldl_cons]
   rw[ih]
   simp
def onlyS(f:Fact):Fact:={Crew:=f.Crew,No:=f.No,At:=f.At,Kind:=f.Kind,Starter:=(bif f.Kind==1 then f.Starter else z_Fact.Starter),Read:=(bif f.Kind==2 then f.Read else z_Fact.Read),Beacon:=(bif f.Kind==3 then f.Beacon else z_Fact.Beacon),Sync:=(bif f.Kind==4 then f.Sync else z_Fact.Sync),Hand:=(bif f.Kind==5 then f.Hand else z_Fact.Hand),Silence:=(bif f.Kind==6 then f.Silence else z_Fact.Silence),Pair:=(bif f.Kind==7 then f.Pair else z_Fact.Pair),Report:=(bif f.Kind==8 then f.Report else z_Fact.Report),Protest:=(bif f.Kind==9 then f.Protest else z_Fact.Protest),Ruling:=(bif f.Kind==10 then f.Ruling else z_Fact.Ruling),Appeal:=(bif f.Kind==11 then f.Appeal else z_Fact.Appeal),Void:=(bif f.Kind==13 then f.Void else z_Fact.Void):Fact}
def numsS(f:Fact):List Int:=[f.Kind,f.Crew,f.No,f.At]++(
 bif f.Kind==1 then[f.Starter.Bib,f.Starter.Distance,f.Starter.Wave,f.Starter.Slot,f.Starter.Age,f.Starter.Chip,f.Starter.Team,f.Starter.Lot]
 else bif f.Kind==2 then[f.Read.Mat,f.Read.Epoch,f.Read.Chip,f.Read.Local]
 else bif f.Kind==3 then[f.Beacon.Mat,f.Beacon.Epoch,f.Beacon.Local,f.Beacon.True,f.Beacon.Err]
 else bif f.Kind==4 then[f.Sync.MatA,f.Sync.EpochA,f.Sync.LocalA,f.Sync.MatB,f.Sync.EpochB,f.Sync.LocalB,f.Sync.Min,f.Sync.Max]
 else bif f.Kind==5 then[f.Hand.Bib,f.Hand.Position,f.Hand.Lo,f.Hand.Hi]
 else bif f.Kind==6 then[f.Silence.Mat,f.Silence.Epoch,f.Silence.Lo,f.Silence.Hi]
 else bif f.Kind==7 then[f.Pair.A,f.Pair.B]
 else bif f.Kind==8 then[f.Report.Case,f.Report.Bib,f.Report.Offence,f.Report.Position]
 else bif f.Kind==9 then[f.Protest.Case,f.Protest.By,f.Protest.Fee,f.Protest.Form]
 else bif f.Kind==10 then[f.Ruling.Case,f.Ruling.Instance,f.Ruling.Kind,f.Ruling.Bib,f.Ruling.Position,f.Ruling.Amount]
 else bif f.Kind==11 then[f.Appeal.Case,suspB f]
 else bif f.Kind==13 then[f.Void.Crew,f.Void.No]else[])
theorem kinds(f:Fact):f.Kind=1\/f.Kind=2\/f.Kind=3\/f.Kind=4\/f.Kind=5\/f.Kind=6\/f.Kind=7\/f.Kind=8\/f.Kind=9\/f.Kind=10\/f.Kind=11\/f.Kind=12\/f.Kind=13\/openU f=.c13 ():=by
 by_cases h1:f.Kind=1; · exact .inl h1
 by_cases h2:f.Kind=2; · exact .inr (.inl h2)
 by_cases h3:f.Kind=3; · exact .inr (.inr (.inl h3))
 by_cases h4:f.Kind=4; · exact .inr (.inr (.inr (.inl h4)))
 by_cases h5:f.Kind=5; · exact .inr (.inr (.inr (.inr (.inl h5))))
 by_cases h6:f.Kind=6; · exact .inr (.inr (.inr (.inr (.inr (.inl h6)))))
 by_cases h7:f.Kind=7; · exact .inr (.inr (.inr (.inr (.inr (.inr (.inl h7))))))
 by_cases h8:f.Kind=8; · exact .inr (.inr (.inr (.inr (.inr (.inr (.inr (.inl h8)))))))
 by_cases h9:f.Kind=9; · exact .inr (.inr (.inr (.inr (.inr (.inr (.inr (.inr (.inl h9))))))))
 by_cases h10:f.Kind=10; · exact .inr (.inr (.inr (.inr (.inr (.inr (.inr (.inr (.inr (.inl h10)))))))))
 by_cases h11:f.Kind=11; · exact .inr (.inr (.inr (.inr (.inr (.inr (.inr (.inr (.inr (.inr (.inl h11))))))))))
 by_cases h12:f.Kind=12; · exact .inr (.inr (.inr (.inr (.inr (.inr (.inr (.inr (.inr (.inr (.inr (.inl h12)))))))))))
 by_cases h13:f.Kind=13; · exact .inr (.inr (.inr (.inr (.inr (.inr (.inr (.inr (.inr (.inr (.inr (.inr (.inl h13))))))))))))
 refine .inr (.inr (.inr (.inr (.inr (.inr (.inr (.inr (.inr (.inr (.inr (.inr (.inr ?_))))))))))))
 unfold openU
 simp only[beq_eq_false_iff_ne.2 h1,beq_eq_false_iff_ne.2 h2,beq_eq_false_iff_ne.2 h3,beq_eq_false_iff_ne.2 h4,beq_eq_false_iff_ne.2 h5,beq_eq_false_iff_ne.2 h6,beq_eq_false_iff_ne.2 h7,beq_eq_false_iff_ne.2 h8,beq_eq_false_iff_ne.2 h9,beq_eq_false_iff_ne.2 h10,beq_eq_false_iff_ne.2 h11,beq_eq_false_iff_ne.2 h12,beq_eq_false_iff_ne.2 h13,cond_false]
def copyS(f:Fact):Fact×Int:=(entsS f).foldl (fun p e=>putV p.1 p.2 e (getV f (suspB f) e)) (restS f,0)
theorem Qfv(f:Fact):numF f=bif fineU f (openU f)then(bif (entsS f).all (inE f (suspB f))then((entsS f).map (getV f (suspB f)),lastF f (copyS f).1 (copyS f).2==f)else([],false))else([],false):=by
 unfold numF
 rw[Qle]
 cases fineU f (openU f)with
 |false=>rfl
 |true=>
  simp only[cond_true]
  cases(entsS f).all (inE f (suspB f))with
  |false=>rfl
  |true=>simp only[cond_true,List.nil_append];rfl
theorem QcP(f:Fact)(h:¬openU f=.c13 ()):lastF f (copyS f).1 (copyS f).2=onlyS f/\(entsS f).map (getV f (suspB f))=numsS f:=by
 rcases kinds f with k|k|k|k|k|k|k|k|k|k|k|k|k|k
 case inr.inr.inr.inr.inr.inr.inr.inr.inr.inr.inl=>
  obtain⟨Cr,No,At,Ki,S,R,B,Sy,Ha,Si,Pa,Re,Pr,Ru,⟨Ca,Su⟩,Vo⟩:=f
  simp only at k
  subst k
  cases Su<;>exact⟨by kernel_rfl,by kernel_rfl⟩
 case inr.inr.inr.inr.inr.inr.inr.inr.inr.inl=>
  obtain⟨Cr,No,At,Ki,S,R,B,Sy,Ha,Si,Pa,Re,Pr,⟨r1,r2,r3,r4,r5,r6⟩,Ap,Vo⟩:=f
  simp only at k
  subst k
  have:∃x,openU ⟨Cr,No,At,10,S,R,B,Sy,Ha,Si,Pa,Re,Pr,⟨r1,r2,r3,r4,r5,r6⟩,Ap,Vo⟩=.c9 x:=by
   unfold openU
   show∃x,(bif (r3==1)||(r3==2)then U_facts_open_rxk.c9 (0,0,0,0,0,0)else bif r3==3 then .c9 (1,9999,0,255,1,1099511627776)else bif r3==4 then .c9 (1,9999,0,255,1,64)else .c9 (1,9999,0,255,0,0))=.c9 x
   cases((r3==1)||(r3==2))with
   |true=>exact⟨_,rfl⟩
   |false=>
    cases(r3==3)with
    |true=>exact⟨_,rfl⟩
    |false=>cases(r3==4)<;>exact⟨_,rfl⟩
  obtain⟨x,hx⟩:=this
  unfold copyS entsS
  rw[hx]
  exact⟨by kernel_rfl,by kernel_rfl⟩
 case inr.inr.inr.inr.inr.inr.inr.inr.inr.inr.inr.inr.inr=>exact absurd k h
 all_goals
  obtain⟨Cr,No,At,Ki,S,R,B,Sy,Ha,Si,Pa,Re,Pr,Ru,Ap,Vo⟩:=f
  simp only at k
  subst k
  exact⟨by kernel_rfl,by kernel_rfl⟩
def contS(f:Fact):Bool:=fineU f (openU f)&&(bodyL (openU f)).all (inE f (suspB f))
def headS(f:Fact):Bool:=headL.all (inE f (suspB f))
theorem Qbz(f:Fact):validS f=(headS f&&contS f&&(onlyS f==f)):=by
 unfold validS contS headS
 rw[Qfv]
 by_cases h:openU f=.c13 ()
 ·have:fineU f (openU f)=false:=by rw[h];rfl
  rw[this]
  simp
 ·obtain⟨h1,h2⟩:=QcP f h
  rw[h1]
  unfold entsS
  rw[List.all_append]
  cases fineU f (openU f)with
  |false=>simp
  |true=>
   cases headL.all (inE f (suspB f))with
   |false=>rfl
   |true=>cases(bodyL (openU f)).all (inE f (suspB f))<;>rfl
theorem Qg3{f:Fact}(h:validS f=true):(numF f).1=numsS f:=by
 have hv:=h
 unfold validS at h
 rw[Qfv]at h⊢
 by_cases q:openU f=.c13 ()
 ·have:fineU f (openU f)=false:=by rw[q];rfl
  rw[this]at h;cases h
 ·obtain⟨h1,h2⟩:=QcP f q
  cases a:fineU f (openU f)with
  |false=>rw[a]at h;cases h
  |true=>
   rw[a]at h
   cases b:(entsS f).all (inE f (suspB f))with
   |false=>rw[b]at h;cases h
   |true=>exact h2
theorem QdE{f:Fact}(h:validS f=true):onlyS f=f:=by
 rw[Qbz]at h
 simp only[Bool.and_eq_true,beq_iff_eq]at h
 exact h.2
theorem QjN{f g:Fact}(hf:validS f=true)(hg:validS g=true)(h:numsS f=numsS g):f=g:=by
 have e1:=QdE hf
 have e2:=QdE hg
 rw[<- e1, <- e2]
 unfold numsS at h
 have hk:f.Kind=g.Kind:=by
  simp only[List.cons_append,List.cons.injEq]at h
  exact h.1
 have nk:=Qg4 hf
 rcases kinds f with k|k|k|k|k|k|k|k|k|k|k|k|k|k
 case inr.inr.inr.inr.inr.inr.inr.inr.inr.inr.inr.inr.inr=>
  rw[Qbz]at hf
  unfold contS at hf
  rw[k]at hf
  simp[fineU]at hf
 all_goals
  have k2:=hk.symm.trans k
  clear hf hg hk nk e1 e2
  obtain⟨Cr,No,At,Ki,⟨s1,s2,s3,s4,s5,s6,s7,s8⟩,⟨rd1,rd2,rd3,rd4⟩,⟨b1,b2,b3,b4,b5⟩,⟨y1,y2,y3,y4,y5,y6,y7,y8⟩,⟨h1,h2,h3,h4⟩,⟨i1,i2,i3,i4⟩,⟨p1,p2⟩,⟨u1,u2,u3,u4⟩,⟨o1,o2,o3,o4⟩,⟨r1,r2,r3,r4,r5,r6⟩,⟨a1,a2⟩,⟨v1,v2⟩⟩:=f
  obtain⟨Cr',No',At',Ki',⟨s1',s2',s3',s4',s5',s6',s7',s8'⟩,⟨rd1',rd2',rd3',rd4'⟩,⟨b1',b2',b3',b4',b5'⟩,⟨y1',y2',y3',y4',y5',y6',y7',y8'⟩,⟨h1',h2',h3',h4'⟩,⟨i1',i2',i3',i4'⟩,⟨p1',p2'⟩,⟨u1',u2',u3',u4'⟩,⟨o1',o2',o3',o4'⟩,⟨r1',r2',r3',r4',r5',r6'⟩,⟨a1',a2'⟩,⟨v1',v2'⟩⟩:=g
  simp only at k k2
  subst k
  subst k2
  first
   |(simp[suspB]at h;simp[onlyS,h];done)
   |(cases a2<;>cases a2'<;>simp[suspB]at h<;>simp[onlyS,h])
set_option maxRecDepth 4000
theorem Qfm(x:Int):IntKind.u64.wrap x=x%18446744073709551616:=by unfold IntKind.wrap;rfl
theorem Qg1(x:Int):IntKind.u8.wrap x=x%256:=by unfold IntKind.wrap;rfl
theorem or8(a b:Int):orI .u8 a b=(((BitVec.ofInt 8 a|||BitVec.ofInt 8 b).toNat:Nat):Int)%256:=by unfold orI;exact Qg1 _
theorem QlK(a b:Int):Qjj .u64 a b=(((BitVec.ofInt 64 a^^^BitVec.ofInt 64 b).toNat:Nat):Int)%18446744073709551616:=by unfold Qjj;exact Qfm _
theorem or128(v:Nat):orI .u8 (IntKind.u8.wrap (v:Int)) 128=((v%128+128:Nat):Int):=by
 have key:∀m:Fin 256,((BitVec.ofNat 8 m.val|||128#8).toNat)=m.val%128+128:=by decide
 have hm:v%256<256:=Nat.mod_lt _ (by decide)
 have k:(BitVec.ofNat 8 (v%256)|||128#8).toNat=v%256%128+128:=key ⟨v%256,hm⟩
 have e:BitVec.ofInt 8 ((v:Int)%256)=BitVec.ofNat 8 (v%256):=by
  have:((v:Int)%256)=((v%256:Nat):Int):=by omega
  rw[this]
  exact BitVec.ofInt_natCast 8 (v%256)
 have e2:BitVec.ofInt 8 128=128#8:=by rfl
 rw[or8,Qg1,e,e2,k]
 omega
theorem QcM(v:Nat):numN v=if 128<=v then((v%128+128:Nat):Int)::numN (v/128)else[(v:Int)]:=by
 by_cases h:128<=v
 ·rw[QjO h,if_pos h,or128]
 ·rw[Qhl h,if_neg h,Qg1]
  congr 1
  omega
theorem Qgh:∀(v w:Nat) (a b:List Int),numN v++a=numN w++b->v=w/\a=b:=by
 intro v
 induction v using Nat.strongRecOn with
 |_ v ih=>
 intro w a b h
 rw[QcM v,QcM w]at h
 by_cases hv:128<=v
 ·rw[if_pos hv]at h
  by_cases hw:128<=w
  ·rw[if_pos hw]at h
   simp only[List.cons_append,List.cons.injEq]at h
   obtain⟨h1,h2⟩:=ih (v/128) (by omega) (w/128) a b h.2
   exact⟨by omega,h2⟩
  ·rw[if_neg hw]at h
   simp only[List.cons_append,List.cons.injEq]at h
   omega
 ·rw[if_neg hv]at h
  by_cases hw:128<=w
  ·rw[if_pos hw]at h
   simp only[List.cons_append,List.cons.injEq]at h
   omega
  ·rw[if_neg hw]at h
   simp only[List.cons_append,List.cons.injEq,List.nil_append]at h
   exact⟨by omega,h.2⟩
theorem QdX:∀(v:Nat),∀x∈numN v,0<=x/\x<256:=by
 intro v
 induction v using Nat.strongRecOn with
 |_ v ih=>
 intro x hx
 rw[QcM v]at hx
 by_cases hv:128<=v
 ·rw[if_pos hv]at hx
  rcases List.mem_cons.1 hx with rfl|hx
  ·omega
  ·exact ih (v/128) (by omega) x hx
 ·rw[if_neg hv]at hx
  rcases List.mem_cons.1 hx with rfl|hx
  ·omega
  ·cases hx
theorem Qfk{x:Int}(h0:0<=x)(h1:x<9223372036854775808):zigI x=2*x:=by
 unfold zigI shlI
 have e1:shrI .i64 x 63=0:=by
  show Int.fdiv x (2^63)=0
  rw[Int.fdiv_eq_ediv_of_nonneg _ (by decide)]
  omega
 have e2:(2:Int)^(min (1:Int).toNat IntKind.u64.bits)=2:=by decide
 rw[e1,e2,QlK]
 simp only[Qfm]
 have e3:BitVec.ofInt 64 ((0:Int)%18446744073709551616)=0#64:=by rfl
 rw[e3,BitVec.xor_zero,BitVec.toNat_ofInt]
 omega
theorem Qfl{x:Int}(h0:x<0)(h1: -9223372036854775808<=x):zigI x= -2*x-1:=by
 unfold zigI shlI
 have e1:shrI .i64 x 63= -1:=by
  show Int.fdiv x (2^63)= -1
  rw[Int.fdiv_eq_ediv_of_nonneg _ (by decide)]
  omega
 have e2:(2:Int)^(min (1:Int).toNat IntKind.u64.bits)=2:=by decide
 rw[e1,e2,QlK]
 simp only[Qfm]
 have e3:BitVec.ofInt 64 ((-1:Int)%18446744073709551616)=BitVec.allOnes 64:=by decide
 rw[e3,BitVec.xor_allOnes,BitVec.toNat_not,BitVec.toNat_ofInt]
 omega
def in63(x:Int):Prop:= -9223372036854775808<=x/\x<9223372036854775808
theorem Qk4{x y:Int}(hx:in63 x)(hy:in63 y)(h:zigI x=zigI y):x=y:=by
 obtain⟨a,b⟩:=hx
 obtain⟨c,d⟩:=hy
 by_cases p:0<=x
 ·rw[Qfk p b]at h
  by_cases q:0<=y
  ·rw[Qfk q d]at h;omega
  ·rw[Qfl (by omega) c]at h;omega
 ·rw[Qfl (by omega) a]at h
  by_cases q:0<=y
  ·rw[Qfk q d]at h;omega
  ·rw[Qfl (by omega) c]at h;omega
theorem Qge:∀(l m:List Int),l.length=m.length->(∀x∈l,in63 x)->(∀x∈m,in63 x)->(l.map oneB).flatten=(m.map oneB).flatten->l=m
 |[],[],_,_,_,_=>rfl
 |x::l,y::m,hl,h1,h2,h=>by
  simp only[List.map_cons,List.flatten_cons,oneB,List.cons_append,List.cons.injEq,true_and]at h
  obtain⟨e1,e2⟩:=Qgh _ _ _ _ h
  obtain⟨z,p1,p2⟩:=Qjh x
  obtain⟨z',q1,q2⟩:=Qjh y
  rw[p1,q1]at e1
  have:x=y:=Qk4 (h1 x (by simp)) (h2 y (by simp)) (by rw[p1,q1]at*;simp only[Int.toNat_natCast]at e1;omega)
  rw[this,Qge l m (by simpa using hl) (fun z hz=>h1 z (by simp[hz])) (fun z hz=>h2 z (by simp[hz])) e2]
theorem QiD{l m:List Int}(h1:∀x∈l,in63 x)(h2:∀x∈m,in63 x)(h:listB l=listB m):l=m:=by
 unfold listB at h
 rw[List.append_assoc,List.append_assoc]at h
 simp only[List.cons_append,List.nil_append,List.cons.injEq,true_and]at h
 obtain⟨e1,e2⟩:=Qgh _ _ _ _ h
 exact Qge l m e1 h1 h2 e2
theorem Qc5(l:List Int):∀x∈listB l,0<=x/\x<256:=by
 intro x hx
 unfold listB at hx
 simp only[List.mem_append,List.mem_singleton,List.mem_flatten,List.mem_map]at hx
 rcases hx with(rfl|hx)|⟨m,⟨y,_,rfl⟩,hx⟩
 ·omega
 ·exact QdX _ x hx
 ·unfold oneB at hx
  rcases List.mem_cons.1 hx with rfl|hx
  ·omega
  ·exact QdX _ x hx
structure CmpOK {α:Type} (c:α->α->Int):Prop where
 swap:∀x y,c y x= -c x y
 trans:∀x y z,c x y<0->c y z<0->c x z<0
 eqt:∀x y z,c x y=0->c x z=c y z
section
variable {α:Type}{c d:α->α->Int}
theorem CmpOK.eqr(h:CmpOK c){x y:α}(z:α)(e:c x y=0):c z x=c z y:=by
 rw[h.swap x z,h.swap y z,h.eqt x y z e]
theorem QcV(h:CmpOK c)(k:CmpOK d):CmpOK fun x y=>bif c x y != 0 then c x y else d x y:=by
 refine⟨fun x y=>?_,fun x y z=>?_,fun x y z=>?_⟩
 ·show(bif c y x != 0 then c y x else d y x)= -(bif c x y != 0 then c x y else d x y)
  have e:=h.swap x y
  by_cases q:c x y=0
  ·have q2:c y x=0:=by omega
   rw[q,q2];exact k.swap x y
  ·have q2:¬c y x=0:=by omega
   rw[bne_iff_ne.2 q,bne_iff_ne.2 q2];exact e
 ·show(bif c x y != 0 then c x y else d x y)<0->(bif c y z != 0 then c y z else d y z)<0->(bif c x z != 0 then c x z else d x z)<0
  by_cases q:c x y=0
  ·have e:=h.eqt x y z q
   rw[q,e]
   by_cases q2:c y z=0
   ·rw[q2];exact k.trans x y z
   ·rw[bne_iff_ne.2 q2]
    intro _ b;exact b
  ·rw[bne_iff_ne.2 q]
   by_cases q2:c y z=0
   ·have e:=h.eqr x q2
    rw[q2, <- e,bne_iff_ne.2 q]
    intro a _;exact a
   ·rw[bne_iff_ne.2 q2]
    intro a b
    have:=h.trans x y z a b
    rw[bne_iff_ne.2 (show¬c x z=0 by omega)]
    exact this
 ·show(bif c x y != 0 then c x y else d x y)=0->(bif c x z != 0 then c x z else d x z)=(bif c y z != 0 then c y z else d y z)
  by_cases q:c x y=0
  ·rw[q,h.eqt x y z q]
   intro e
   have e:d x y=0:=e
   rw[k.eqt x y z e]
  ·rw[bne_iff_ne.2 q]
   intro e;exact absurd e q
theorem CmpOK.on{β:Type}(h:CmpOK c)(f:β->α):CmpOK fun x y=>c (f x) (f y):=
 ⟨fun x y=>h.swap _ _,fun x y z=>h.trans _ _ _,fun x y z=>h.eqt _ _ _⟩
end
theorem cmpI_ok:CmpOK cmpI:=by
 have e:∀a b,cmpI a b=if a<b then-1 else if b<a then 1 else 0:=by
  intro a b
  unfold cmpI
  by_cases h:a<b
  ·rw[decide_eq_true h,if_pos h];rfl
  ·rw[decide_eq_false h,if_neg h]
   by_cases h2:b<a
   ·rw[decide_eq_true h2,if_pos h2];rfl
   ·rw[decide_eq_false h2,if_neg h2];rfl
 refine⟨fun x y=>?_,fun x y z=>?_,fun x y z=>?_⟩
 ·rw[e,e];split<;>split<;>omega
 ·rw[e,e,e]
  intro a b
  have h1:x<y:=by
   by_cases q:x<y
   ·exact q
   ·rw[if_neg q]at a;split at a<;>omega
  have h2:y<z:=by
   by_cases q:y<z
   ·exact q
   ·rw[if_neg q]at b;split at b<;>omega
  rw[if_pos (by omega)];omega
 ·rw[e x y]
  intro h
  have:x=y:=by
   by_cases q:x<y
   ·rw[if_pos q]at h;omega
   ·rw[if_neg q]at h;split at h<;>omega
  rw[this]
theorem cb_ok:CmpOK Lib.compareBytes:=by
 have sw:∀x y:List UInt8,Lib.compareBytes y x= -Lib.compareBytes x y:=by
  intro x
  induction x with
  |nil=>intro y;cases y<;>simp[Lib.compareBytes]
  |cons a x ih=>
   intro y
   cases y with
   |nil=>simp[Lib.compareBytes]
   |cons b y=>
    unfold Lib.compareBytes
    by_cases h:a<b
    ·have h':¬b<a:=by rw[UInt8.lt_iff_toNat_lt]at*;omega
     rw[if_pos h,if_neg h',if_pos h];rfl
    ·rw[if_neg h]
     by_cases h2:b<a
     ·rw[if_pos h2,if_neg h,if_pos h2]
     ·rw[if_neg h2,if_neg h2,if_neg h];exact ih y
 have eq:∀x y:List UInt8,Lib.compareBytes x y=0->x=y:=by
  intro x
  induction x with
  |nil=>intro y h;cases y with
   |nil=>rfl
   |cons b y=>simp[Lib.compareBytes]at h
  |cons a x ih=>
   intro y h
   cases y with
   |nil=>simp[Lib.compareBytes]at h
   |cons b y=>
    unfold Lib.compareBytes at h
    by_cases q:a<b
    ·rw[if_pos q]at h;omega
    ·rw[if_neg q]at h
     by_cases q2:b<a
     ·rw[if_pos q2]at h;omega
     ·rw[if_neg q2]at h
      have:a=b:=by
       rw[UInt8.lt_iff_toNat_lt]at q q2
       exact UInt8.toNat_inj.1 (by omega)
      rw[this,ih y h]
 refine⟨sw,?_,fun x y z h=>by rw[eq x y h]⟩
 intro x
 induction x with
 |nil=>
  intro y z h k
  cases y with
  |nil=>simp[Lib.compareBytes]at h
  |cons b y=>cases z with
   |nil=>simp[Lib.compareBytes]at k
   |cons d z=>simp[Lib.compareBytes]
 |cons a x ih=>
  intro y z h k
  cases y with
  |nil=>simp[Lib.compareBytes]at h
  |cons b y=>
   cases z with
   |nil=>simp[Lib.compareBytes]at k
   |cons d z=>
    unfold Lib.compareBytes at h k⊢
    simp only[UInt8.lt_iff_toNat_lt]at*
    by_cases q:a.toNat<b.toNat
    ·by_cases r:b.toNat<d.toNat
     ·rw[if_pos (by omega)];omega
     ·rw[if_neg r]at k
      by_cases r2:d.toNat<b.toNat
      ·rw[if_pos r2]at k;omega
      ·rw[if_pos (by omega)];omega
    ·rw[if_neg q]at h
     by_cases q2:b.toNat<a.toNat
     ·rw[if_pos q2]at h;omega
     ·rw[if_neg q2]at h
      by_cases r:b.toNat<d.toNat
      ·rw[if_pos (by omega)];omega
      ·rw[if_neg r]at k
       by_cases r2:d.toNat<b.toNat
       ·rw[if_pos r2]at k;omega
       ·rw[if_neg r2]at k
        rw[if_neg (by omega),if_neg (by omega)]
        exact ih y z h k
theorem QlY:∀{x y:List UInt8},Lib.compareBytes x y=0->x=y
 |[],[],_=>rfl
 |[],_::_,h=>by simp[Lib.compareBytes]at h
 |_::_,[],h=>by simp[Lib.compareBytes]at h
 |a::x,b::y,h=>by
  unfold Lib.compareBytes at h
  by_cases q:a<b
  ·rw[if_pos q]at h;omega
  ·rw[if_neg q]at h
   by_cases q2:b<a
   ·rw[if_pos q2]at h;omega
   ·rw[if_neg q2]at h
    have:a=b:=by
     rw[UInt8.lt_iff_toNat_lt]at q q2
     exact UInt8.toNat_inj.1 (by omega)
    rw[this,QlY h]
theorem Qfc:∀{l m:List Int},(∀x∈l,0<=x/\x<256)->(∀x∈m,0<=x/\x<256)->l.map Qbg=m.map Qbg->l=m
 |[],[],_,_,_=>rfl
 |[],_::_,_,_,h=>by simp at h
 |_::_,[],_,_,h=>by simp at h
 |x::l,y::m,h1,h2,h=>by
  simp only[List.map_cons,List.cons.injEq]at h
  have a1:=h1 x (by simp)
  have a2:=h2 y (by simp)
  have e:=congrArg UInt8.toNat h.1
  unfold Qbg at e
  rw[UInt8.toNat_ofNat',UInt8.toNat_ofNat']at e
  have:x=y:=by omega
  rw[this,Qfc (fun z hz=>h1 z (by simp[hz])) (fun z hz=>h2 z (by simp[hz])) h.2]
theorem QgK(f g:Fact):cmpF f g=bif cmpI f.At g.At != 0 then cmpI f.At g.At else bif cmpI f.Crew g.Crew != 0 then cmpI f.Crew g.Crew else bif cmpI f.No g.No != 0 then cmpI f.No g.No else cmpB (encF f).1 (encF g).1:=by
 unfold cmpF orL orL orL orL
 generalize cmpI f.At g.At=a
 generalize cmpI f.Crew g.Crew=b
 generalize cmpI f.No g.No=d
 cases h1:(a != 0)with
 |true=>simp only[cond_true,h1]
 |false=>
  simp only[cond_false]
  cases h2:(b != 0)with
  |true=>simp only[cond_true,h2]
  |false=>
   simp only[cond_false]
   cases h3:(d != 0)with
   |true=>simp only[cond_true,h3]
   |false=>rfl
theorem cmpF_ok:CmpOK cmpF:=by
 have h:=QcV (cmpI_ok.on fun f:Fact=>f.At) (QcV (cmpI_ok.on fun f:Fact=>f.Crew) (QcV (cmpI_ok.on fun f:Fact=>f.No) (cb_ok.on fun f:Fact=>(encF f).1.map Qbg)))
 have e:cmpF=fun f g=>bif cmpI f.At g.At != 0 then cmpI f.At g.At else bif cmpI f.Crew g.Crew != 0 then cmpI f.Crew g.Crew else bif cmpI f.No g.No != 0 then cmpI f.No g.No else cmpB (encF f).1 (encF g).1:=by
  funext f g;exact QgK f g
 rw[e];exact h
def wideE(e:Ent):Bool:=decide (-1125899906842624<=e.lo)&&decide (e.hi<=1125899906842624)
theorem QiK(f:Fact):(entsS f).all wideE=true:=by
 unfold entsS
 rw[List.all_append,Bool.and_eq_true]
 refine⟨rfl,?_⟩
 rcases kinds f with k|k|k|k|k|k|k|k|k|k|k|k|k|k
 case inr.inr.inr.inr.inr.inr.inr.inr.inr.inl=>
  unfold openU
  rw[k]
  show(bodyL (bif (f.Ruling.Kind==1)||(f.Ruling.Kind==2)then .c9 (0,0,0,0,0,0)else bif f.Ruling.Kind==3 then .c9 (1,9999,0,255,1,1099511627776)else bif f.Ruling.Kind==4 then .c9 (1,9999,0,255,1,64)else .c9 (1,9999,0,255,0,0))).all wideE=true
  cases((f.Ruling.Kind==1)||(f.Ruling.Kind==2))with
  |true=>rfl
  |false=>
   cases(f.Ruling.Kind==3)with
   |true=>rfl
   |false=>cases(f.Ruling.Kind==4)<;>rfl
 case inr.inr.inr.inr.inr.inr.inr.inr.inr.inr.inr.inr.inr=>rw[k];rfl
 all_goals
  unfold openU
  rw[k]
  rfl
theorem QdW{f:Fact}(h:validS f=true):∀x∈numsS f,in63 x:=by
 have h0:=h
 unfold validS at h
 rw[Qfv]at h
 by_cases q:openU f=.c13 ()
 ·rw[q]at h;cases h
 ·rw[<- (QcP f q).2]
  cases a:fineU f (openU f)with
  |false=>rw[a]at h;cases h
  |true=>
   rw[a]at h
   cases b:(entsS f).all (inE f (suspB f))with
   |false=>rw[b]at h;cases h
   |true=>
    intro x hx
    obtain⟨e,he,rfl⟩:=List.mem_map.1 hx
    have h1:=List.all_eq_true.1 b e he
    have h2:=List.all_eq_true.1 (QiK f) e he
    unfold inE at h1
    unfold wideE at h2
    simp only[Bool.and_eq_true,Bool.not_eq_true',decide_eq_false_iff_not,decide_eq_true_eq]at h1 h2
    unfold in63
    omega
theorem Qe7{f:Fact}(h:validS f=true):encF f=(listB (numsS f),0):=by
 unfold encF
 rw[h,Qg3 h];rfl
theorem Qly{f g:Fact}(hf:validS f=true)(hg:validS g=true)(h:cmpF f g=0):f=g:=by
 rw[QgK]at h
 have z:cmpB (encF f).1 (encF g).1=0:=by
  cases h1:(cmpI f.At g.At != 0)with
  |true=>rw[h1]at h;exact absurd h (bne_iff_ne.1 h1)
  |false=>
   rw[h1]at h
   cases h2:(cmpI f.Crew g.Crew != 0)with
   |true=>rw[h2]at h;exact absurd h (bne_iff_ne.1 h2)
   |false=>
    rw[h2]at h
    cases h3:(cmpI f.No g.No != 0)with
    |true=>rw[h3]at h;exact absurd h (bne_iff_ne.1 h3)
    |false=>rw[h3]at h;exact h
 rw[Qe7 hf,Qe7 hg]at z
 have e:=Qfc (Qc5 _) (Qc5 _) (QlY z)
 exact QjN hf hg (QiD (QdW hf) (QdW hg) e)
set_option maxRecDepth 4000
def FirstIs(c:Course)(l:List Fact)(f:Fact):Prop:=f∈l/\okS c f=true/\ ∀g∈l,okS c g=true->g.Starter.Bib=f.Starter.Bib->¬cmpF g f<0
theorem Qaz{c:Course}{f:Fact}(h:okS c f=true):validS f=true:=by
 unfold okS at h
 simp only[Bool.and_eq_true]at h
 exact h.2.1
theorem FirstIs.one{c:Course}{l:List Fact}{f g:Fact}(hf:FirstIs c l f)(hg:FirstIs c l g)(e:f.Starter.Bib=g.Starter.Bib):f=g:=by
 have h1:=hf.2.2 g hg.1 hg.2.1 e.symm
 have h2:=hg.2.2 f hf.1 hf.2.1 e
 have:=cmpF_ok.swap f g
 exact Qly (Qaz hf.2.1) (Qaz hg.2.1) (by omega)
theorem QlF{c:Course}{l m:List Fact}(h:∀f,validS f=true->(f∈l↔f∈m)){f:Fact}:FirstIs c l f↔FirstIs c m f:=by
 unfold FirstIs
 constructor
 ·rintro⟨a,b,d⟩
  exact⟨(h f (Qaz b)).1 a,b,fun g hg h1 h2=>d g ((h g (Qaz h1)).2 hg) h1 h2⟩
 ·rintro⟨a,b,d⟩
  exact⟨(h f (Qaz b)).2 a,b,fun g hg h1 h2=>d g ((h g (Qaz h1)).1 hg) h1 h2⟩
set_option maxRecDepth 4000
def nb(v lo hi:Int):Bool:= !(decide (v<lo))&& !(decide (hi<v))
theorem QdY(v lo hi:Int):nb v lo hi=true↔lo<=v/\v<=hi:=by
 unfold nb
 simp only[Bool.and_eq_true,Bool.not_eq_true',decide_eq_false_iff_not]
 omega
def contR(f:Fact):Bool:=
 bif f.Kind==1 then true&&(nb f.Starter.Bib 1 9999&&(nb f.Starter.Distance 0 7&&(nb f.Starter.Wave 0 31&&(nb f.Starter.Slot (-1099511627776) 1099511627776&&(nb f.Starter.Age 0 120&&(nb f.Starter.Chip 0 1048576&&(nb f.Starter.Team 0 9999&&(nb f.Starter.Lot 0 1048576&&true))))))))
 else bif f.Kind==2 then true&&(nb f.Read.Mat 0 39&&(nb f.Read.Epoch 0 255&&(nb f.Read.Chip 0 1048576&&(nb f.Read.Local (-1099511627776) 1099511627776&&true))))
 else bif f.Kind==3 then true&&(nb f.Beacon.Mat 0 39&&(nb f.Beacon.Epoch 0 255&&(nb f.Beacon.Local (-1099511627776) 1099511627776&&(nb f.Beacon.True (-1099511627776) 1099511627776&&(nb f.Beacon.Err 0 1099511627776&&true)))))
 else bif f.Kind==4 then decide (f.Sync.Min<=f.Sync.Max)&&(nb f.Sync.MatA 0 39&&(nb f.Sync.EpochA 0 255&&(nb f.Sync.LocalA (-1099511627776) 1099511627776&&(nb f.Sync.MatB 0 39&&(nb f.Sync.EpochB 0 255&&(nb f.Sync.LocalB (-1099511627776) 1099511627776&&(nb f.Sync.Min (-1099511627776) 1099511627776&&(nb f.Sync.Max (-1099511627776) 1099511627776&&true))))))))
 else bif f.Kind==5 then decide (f.Hand.Lo<=f.Hand.Hi)&&(nb f.Hand.Bib 1 9999&&(nb f.Hand.Position 0 255&&(nb f.Hand.Lo (-1099511627776) 1099511627776&&(nb f.Hand.Hi (-1099511627776) 1099511627776&&true))))
 else bif f.Kind==6 then decide (f.Silence.Lo<=f.Silence.Hi)&&(nb f.Silence.Mat 0 39&&(nb f.Silence.Epoch 0 255&&(nb f.Silence.Lo (-1099511627776) 1099511627776&&(nb f.Silence.Hi (-1099511627776) 1099511627776&&true))))
 else bif f.Kind==7 then decide (f.Pair.A<f.Pair.B)&&(nb f.Pair.A 1 9999&&(nb f.Pair.B 1 9999&&true))
 else bif f.Kind==8 then true&&(nb f.Report.Case 1 1048576&&(nb f.Report.Bib 1 9999&&(nb f.Report.Offence 0 31&&(nb f.Report.Position 0 255&&true))))
 else bif f.Kind==9 then true&&(nb f.Protest.Case 1 1048576&&(nb f.Protest.By 0 9999&&(nb f.Protest.Fee 0 1125899906842624&&(nb f.Protest.Form 0 1&&true))))
 else bif f.Kind==10 then true&&(nb f.Ruling.Case 1 1048576&&(nb f.Ruling.Instance 1 2&&(nb f.Ruling.Kind 1 5&&(bif (f.Ruling.Kind==1)||(f.Ruling.Kind==2)then nb f.Ruling.Bib 0 0&&(nb f.Ruling.Position 0 0&&(nb f.Ruling.Amount 0 0&&true))else bif f.Ruling.Kind==3 then nb f.Ruling.Bib 1 9999&&(nb f.Ruling.Position 0 255&&(nb f.Ruling.Amount 1 1099511627776&&true))else bif f.Ruling.Kind==4 then nb f.Ruling.Bib 1 9999&&(nb f.Ruling.Position 0 255&&(nb f.Ruling.Amount 1 64&&true))else nb f.Ruling.Bib 1 9999&&(nb f.Ruling.Position 0 255&&(nb f.Ruling.Amount 0 0&&true))))))
 else bif f.Kind==11 then true&&(nb f.Appeal.Case 1 1048576&&(nb (suspB f) 0 1&&true))
 else bif f.Kind==12 then true&&true
 else bif f.Kind==13 then true&&(nb f.Void.Crew 0 31&&(nb f.Void.No 1 1048576&&true))
 else false
theorem Qli(f:Fact):(f.Kind=1\/f.Kind=2\/f.Kind=3\/f.Kind=4\/f.Kind=5\/f.Kind=6\/f.Kind=7\/f.Kind=8\/f.Kind=9\/f.Kind=10\/f.Kind=11\/f.Kind=12\/f.Kind=13)\/((f.Kind==1)=false/\(f.Kind==2)=false/\(f.Kind==3)=false/\(f.Kind==4)=false/\(f.Kind==5)=false/\(f.Kind==6)=false/\(f.Kind==7)=false/\(f.Kind==8)=false/\(f.Kind==9)=false/\(f.Kind==10)=false/\(f.Kind==11)=false/\(f.Kind==12)=false/\(f.Kind==13)=false):=by
 by_cases h:1<=f.Kind/\f.Kind<=13
 ·left;omega
 ·right
  simp only[beq_eq_false_iff_ne,ne_eq]
  omega
theorem QgI(f:Fact):contS f=contR f:=by
 rcases Qli f with k|⟨k1,k2,k3,k4,k5,k6,k7,k8,k9,k10,k11,k12,k13⟩
 ·rcases k with k|k|k|k|k|k|k|k|k|k|k|k|k
  case inr.inr.inr.inr.inr.inr.inr.inr.inr.inl=>
   obtain⟨Cr,No,At,Ki,S,R,B,Sy,Ha,Si,Pa,Re,Pr,⟨r1,r2,r3,r4,r5,r6⟩,Ap,Vo⟩:=f
   simp only at k
   subst k
   have hu:openU ⟨Cr,No,At,10,S,R,B,Sy,Ha,Si,Pa,Re,Pr,⟨r1,r2,r3,r4,r5,r6⟩,Ap,Vo⟩=(bif (r3==1)||(r3==2)then U_facts_open_rxk.c9 (0,0,0,0,0,0)else bif r3==3 then .c9 (1,9999,0,255,1,1099511627776)else bif r3==4 then .c9 (1,9999,0,255,1,64)else .c9 (1,9999,0,255,0,0)):=rfl
   have hc:contR ⟨Cr,No,At,10,S,R,B,Sy,Ha,Si,Pa,Re,Pr,⟨r1,r2,r3,r4,r5,r6⟩,Ap,Vo⟩=(true&&(nb r1 1 1048576&&(nb r2 1 2&&(nb r3 1 5&&(bif (r3==1)||(r3==2)then nb r4 0 0&&(nb r5 0 0&&(nb r6 0 0&&true))else bif r3==3 then nb r4 1 9999&&(nb r5 0 255&&(nb r6 1 1099511627776&&true))else bif r3==4 then nb r4 1 9999&&(nb r5 0 255&&(nb r6 1 64&&true))else nb r4 1 9999&&(nb r5 0 255&&(nb r6 0 0&&true))))))):=rfl
   rw[hc]
   unfold contS
   rw[hu]
   cases((r3==1)||(r3==2))with
   |true=>rfl
   |false=>
    cases(r3==3)with
    |true=>rfl
    |false=>cases(r3==4)<;>rfl
  case inr.inr.inr.inr.inr.inr.inr.inr.inr.inr.inl=>
   obtain⟨Cr,No,At,Ki,S,R,B,Sy,Ha,Si,Pa,Re,Pr,Ru,⟨Ca,Su⟩,Vo⟩:=f
   simp only at k
   subst k
   cases Su<;>rfl
  all_goals
   obtain⟨Cr,No,At,Ki,S,R,B,Sy,Ha,Si,Pa,Re,Pr,Ru,Ap,Vo⟩:=f
   simp only at k
   subst k
   rfl
 ·have hu:openU f=.c13 ():=by unfold openU;rw[k1,k2,k3,k4,k5,k6,k7,k8,k9,k10,k11,k12,k13];rfl
  unfold contS contR
  rw[hu,k1,k2,k3,k4,k5,k6,k7,k8,k9,k10,k11,k12,k13]
  rfl
theorem QlG{α:Type}[DecidableEq α](l m:List α)(step:Nat->Int->Option (Ctl Int (Ctl Unit Bool)))(hl:l.length<=4611686018427387904)
  (hs:∀n s,step n s=(bif decide (s<(l.length:Int))then(idx l s).bind fun x=>(idx m s).bind fun y=>(bif (x != y)then some (.done (.done false))else some (.cont (IntKind.i64.wrap (s+1))))else some (.done (.cont ())))):
  Ev (fun n=>(bif ((l.length:Int) != (m.length:Int))then some false else(Go.Sw.iter (step n) n 0:Option (Ctl Unit Bool)).bind fun b11=>match b11 with|.cont sb11=>(some true)|.done sb11=>some sb11)) (decide (l=m)):=by
 by_cases hlen:l.length=m.length
 ·rw[show((l.length:Int) != (m.length:Int))=false by rw[hlen];simp]
  simp only[cond_false]
  have loop:∀(r r':List α) (i:Nat),l.drop i=r->m.drop i=r'->i<=l.length->EvI step (i:Int) (bif decide (r=r')then Ctl.cont ()else Ctl.done false):=by
   intro r
   induction r with
   |nil=>
    intro r' i hr hr' hi
    have h1:l.length<=i:=List.drop_eq_nil_iff.1 hr
    have:r'=[]:=by rw[<- hr'];exact List.drop_eq_nil_iff.2 (by omega)
    subst this
    refine EvI.done ?_
    refine Ev.congr (Qa _) fun n=>?_
    rw[hs,Yi hr hi];simp
   |cons x r ih=>
    intro r' i hr hr' hi
    obtain⟨ha,hr2⟩:=QE hl hr
    have hlt:=ha.lt'
    cases r' with
    |nil=>
     have h1:m.length<=i:=List.drop_eq_nil_iff.1 hr'
     omega
    |cons y r'=>
     obtain⟨hb,hr2'⟩:=QE (by omega) hr'
     by_cases e:x=y
     ·subst e
      refine EvI.cont ?_ ((ih r' (i+1) hr2 hr2' (by omega)).eq ?_)
      ·refine Ev.congr (Qa _) fun n=>?_
       rw[hs,ha.lt,ha.ix,hb.ix,cond_true,Option.bind_some,Option.bind_some,ha.nx];simp
      ·congr 1;simp
     ·refine EvI.done ?_
      refine Ev.congr (Qa _) fun n=>?_
      rw[hs,ha.lt,ha.ix,hb.ix,cond_true,Option.bind_some,Option.bind_some,bne_iff_ne.2 e];simp[e]
  refine Ev.bind (loop l m 0 rfl rfl (Nat.zero_le _)).ev ?_
  cases decide (l=m)<;>exact Qa _
 ·rw[show((l.length:Int) != (m.length:Int))=true by rw[bne_iff_ne];omega]
  refine(Qa _).eq ?_
  rw[Yy fun e=>hlen (by rw[e])]
theorem QgZ{c:Course}(h:Course.wf c):CourseOk c:=by
 obtain⟨h1,⟨h2,k2⟩,⟨h3,k3⟩,⟨h4,k4⟩,⟨h5,k5⟩,⟨h6,k6⟩,⟨h7,k7⟩,⟨h8,k8⟩,_⟩:=h
 exact⟨h1,h2,fun x hx=>(k2 x hx).1,h3,h4,fun x hx=>(k4 x hx).1,fun x hx=>(k4 x hx).2.2.2.1.1,h5,fun x hx=>(k5 x hx).1,h6,fun x hx=>(k6 x hx).1,h7,fun x hx=>(k7 x hx).1,h8⟩
theorem QhK{c:Course}(h:Course.wf c):PartsOk c:=by
 obtain⟨_,_,_,⟨h4,k4⟩,_⟩:=h
 exact⟨fun d hd=>(k4 d hd).2.1.1,fun d hd=>(k4 d hd).2.1.2⟩
theorem Qk7{c:Course}(h:Course.wf c):c.Ties.length<=1048576/\ ∀x∈c.Ties,Step.wf x:=by
 obtain⟨_,_,_,_,_,_,_,_,h9,_⟩:=h
 exact h9
def extG(W f last:Int):List Int->List (Int×Int)
 |[]=>[(f,last)]
 |b::l=>if b-last<=W then extG W f b l else(f,last)::extG W b b l
def grp(W:Int):List Int->List (Int×Int)
 |[]=>[]
 |a::l=>extG W a a l
structure IsHit (W:Int) (S:Int->Prop) (a b:Int):Prop where
 fa:S a
 lb:S b
 le:a<=b
 st:∀s,S s->s<a->s<a-W
 en:∀s,S s->b<s->b+W<s
 su:∀s,S s->a<=s->s<b->∃t,S t/\s<t/\t<=s+W
 pr:∀s,S s->a<s->s<=b->∃t,S t/\t<s/\s-W<=t/\a<=t
theorem IsHit.congr{W:Int}{S T:Int->Prop}(h:∀s,S s↔T s){a b:Int}(q:IsHit W S a b):IsHit W T a b:=by
 have:S=T:=funext fun s=>propext (h s)
 rw[<- this];exact q
theorem IsHit.one{W:Int}{S:Int->Prop}{a b a' b':Int}(h:IsHit W S a b)(h':IsHit W S a' b'){s:Int}(h1:a<=s)(h2:s<=b)(h3:a'<=s)(h4:s<=b'):a=a'/\b=b':=by
 have e1:a=a':=by
  rcases Int.lt_trichotomy a a' with q|q|q
  ·obtain⟨t,t1,t2,t3,t4⟩:=h.pr a' h'.fa q (by omega)
   have:=h'.st t t1 t2;omega
  ·exact q
  ·obtain⟨t,t1,t2,t3,t4⟩:=h'.pr a h.fa q (by omega)
   have:=h.st t t1 t2;omega
 refine⟨e1,?_⟩
 rcases Int.lt_trichotomy b b' with q|q|q
 ·obtain⟨t,t1,t2,t3⟩:=h'.su b h.lb (by omega) q
  have:=h.en t t1 t2;omega
 ·exact q
 ·obtain⟨t,t1,t2,t3⟩:=h.su b' h'.lb (by omega) q
  have:=h'.en t t1 t2;omega
structure Chn (W:Int) (P:List Int) (f last:Int):Prop where
 ff:f∈P
 ll:last∈P
 bd:∀s∈P,f<=s/\s<=last
 su:∀s∈P,s<last->∃t∈P,s<t/\t<=s+W
 pr:∀s∈P,f<s->∃t∈P,t<s/\s-W<=t
theorem QiG{W:Int}(hW:0<=W):∀(l:List Int) (f last:Int) (P:List Int),l.Pairwise (· <= ·)->(∀b∈l,last<=b)->Chn W P f last->
  (∀g∈extG W f last l,IsHit W (· ∈P++l) g.1 g.2/\f<=g.1)/\(∀s∈P++l,∃g∈extG W f last l,g.1<=s/\s<=g.2)/\(extG W f last l).Pairwise (fun x y=>x.2+W<y.1):=by
 intro l
 induction l with
 |nil=>
  intro f last P _ _ c
  refine⟨fun g hg=>?_,fun s hs=>?_,?_⟩
  ·simp only[extG,List.mem_singleton]at hg
   subst hg
   simp only[List.append_nil]
   refine⟨⟨c.ff,c.ll,(c.bd _ c.ff).2,fun s hs h=>?_,fun s hs h=>?_,fun s hs _ h=>?_,fun s hs h _=>?_⟩,Int.le_refl _⟩
   ·have:=(c.bd s hs).1;omega
   ·have:=(c.bd s hs).2;omega
   ·obtain⟨t,h1,h2⟩:=c.su s hs h;exact⟨t,h1,h2⟩
   ·obtain⟨t,h1,h2⟩:=c.pr s hs h;exact⟨t,h1,h2.1,h2.2,(c.bd t h1).1⟩
  ·simp only[List.append_nil]at hs
   exact⟨(f,last),by simp[extG],c.bd s hs⟩
  ·simp[extG]
 |cons b l ih=>
  intro f last P hs hb c
  rw[List.pairwise_cons]at hs
  have hlb:last<=b:=hb b (by simp)
  have cb:=c.bd
  by_cases h:b-last<=W
  ·have c':Chn W (P++[b]) f b:=by
    refine⟨by simp[c.ff],by simp,fun s q=>?_,fun s q h1=>?_,fun s q h1=>?_⟩
    ·rcases List.mem_append.1 q with q|q
     ·have:=cb s q;omega
     ·simp only[List.mem_singleton]at q;subst q;have:=cb f c.ff;omega
    ·rcases List.mem_append.1 q with q|q
     ·by_cases z:s<last
      ·obtain⟨t,t1,t2⟩:=c.su s q z
       exact⟨t,by simp[t1],t2⟩
      ·exact⟨b,by simp,by omega,by have:=cb s q;omega⟩
     ·simp only[List.mem_singleton]at q;omega
    ·rcases List.mem_append.1 q with q|q
     ·obtain⟨t,t1,t2⟩:=c.pr s q h1
      exact⟨t,by simp[t1],t2⟩
     ·simp only[List.mem_singleton]at q
      subst q
      by_cases z:last<s
      ·exact⟨last,by simp[c.ll],z,by omega⟩
      ·have:s=last:=by omega
       subst this
       obtain⟨t,t1,t2⟩:=c.pr s c.ll h1
       exact⟨t,by simp[t1],t2⟩
   have:=ih f b (P++[b]) hs.2 (fun x hx=>hs.1 x hx) c'
   simp only[List.append_assoc,List.singleton_append]at this
   simp only[extG,if_pos h]
   exact this
  ·have c':Chn W [b] b b:=⟨by simp,by simp,fun s q=>by simp only[List.mem_singleton]at q;omega,fun s q h1=>by simp only[List.mem_singleton]at q;omega,fun s q h1=>by simp only[List.mem_singleton]at q;omega⟩
   obtain⟨i1,i2,i3⟩:=ih b b [b] hs.2 (fun x hx=>hs.1 x hx) c'
   simp only[extG,if_neg h]
   have hge:∀x∈b::l,b<=x:=fun x hx=>by
    rcases List.mem_cons.1 hx with rfl|hx
    ·exact Int.le_refl _
    ·exact hs.1 x hx
   refine⟨fun g hg=>?_,fun s hs'=>?_,?_⟩
   ·rcases List.mem_cons.1 hg with rfl|hg
    ·refine⟨⟨by simp[c.ff],by simp[c.ll],(cb _ c.ff).2,fun s q h1=>?_,fun s q h1=>?_,fun s q h0 h1=>?_,fun s q h0 h1=>?_⟩,Int.le_refl _⟩
     ·simp only at h1⊢
      rcases List.mem_append.1 q with q|q
      ·have:=cb s q;omega
      ·have:=hge s q;have:=cb f c.ff;omega
     ·simp only at h1⊢
      rcases List.mem_append.1 q with q|q
      ·have:=cb s q;omega
      ·have:=hge s q;omega
     ·simp only at h0 h1⊢
      rcases List.mem_append.1 q with q|q
      ·obtain⟨t,t1,t2⟩:=c.su s q h1
       exact⟨t,by simp[t1],t2⟩
      ·have:=hge s q;omega
     ·simp only at h0 h1⊢
      rcases List.mem_append.1 q with q|q
      ·obtain⟨t,t1,t2⟩:=c.pr s q h0
       exact⟨t,by simp[t1],t2.1,t2.2,(cb t t1).1⟩
      ·have:=hge s q;omega
    ·obtain⟨k,kb⟩:=i1 g hg
     have up:∀s,s∈[b]++l->s∈P++b::l:=fun s q=>by simpa using Or.inr (by simpa using q)
     have dn:∀s,s∈P++b::l->s∈[b]++l\/s∈P:=fun s q=>by
      rcases List.mem_append.1 q with q|q
      ·exact .inr q
      ·exact .inl (by simpa using q)
     refine⟨⟨up _ k.fa,up _ k.lb,k.le,fun s q h1=>?_,fun s q h1=>?_,fun s q h0 h1=>?_,fun s q h0 h1=>?_⟩,by have:=cb f c.ff;omega⟩
     ·rcases dn s q with q|q
      ·exact k.st s q h1
      ·have:=cb s q;omega
     ·rcases dn s q with q|q
      ·exact k.en s q h1
      ·have:=cb s q;have:=k.le;omega
     ·rcases dn s q with q|q
      ·obtain⟨t,t1,t2⟩:=k.su s q h0 h1;exact⟨t,up _ t1,t2⟩
      ·have:=cb s q;omega
     ·rcases dn s q with q|q
      ·obtain⟨t,t1,t2⟩:=k.pr s q h0 h1;exact⟨t,up _ t1,t2⟩
      ·have:=cb s q;omega
   ·rcases List.mem_append.1 hs' with q|q
    ·exact⟨(f,last),by simp,cb s q⟩
    ·obtain⟨g,g1,g2⟩:=i2 s (by simpa using q)
     exact⟨g,by simp[g1],g2⟩
   ·rw[List.pairwise_cons]
    refine⟨fun g hg=>?_,i3⟩
    have:=(i1 g hg).2
    simp only;omega
theorem Qd9{W:Int}(hW:0<=W)(l:List Int)(hs:l.Pairwise (· <= ·)):
  (∀g∈grp W l,IsHit W (· ∈l) g.1 g.2)/\(∀s∈l,∃g∈grp W l,g.1<=s/\s<=g.2)/\(grp W l).Pairwise (fun x y=>x.2+W<y.1):=by
 cases l with
 |nil=>exact⟨fun g hg=>by simp[grp]at hg,fun s hs=>by simp at hs,by simp[grp]⟩
 |cons a l=>
  rw[List.pairwise_cons]at hs
  have c:Chn W [a] a a:=⟨by simp,by simp,fun s q=>by simp only[List.mem_singleton]at q;omega,fun s q h1=>by simp only[List.mem_singleton]at q;omega,fun s q h1=>by simp only[List.mem_singleton]at q;omega⟩
  obtain⟨i1,i2,i3⟩:=QiG hW l a a [a] hs.2 hs.1 c
  exact⟨fun g hg=>(i1 g hg).1,i2,i3⟩
theorem Qll{W:Int}(hW:0<=W){l:List Int}(hs:l.Pairwise (· <= ·))(a b:Int):(a,b)∈grp W l↔IsHit W (· ∈l) a b:=by
 obtain⟨i1,i2,i3⟩:=Qd9 hW l hs
 refine⟨fun h=>i1 _ h,fun h=>?_⟩
 obtain⟨g,g1,g2,g3⟩:=i2 a h.fa
 obtain⟨e1,e2⟩:=h.one (i1 g g1) (Int.le_refl _) h.le g2 g3
 have:(a,b)=g:=Prod.ext e1 e2
 rw[this];exact g1
def EvL{S T B:Type}(step:Nat->S->Option (List T×Ctl S B))(s:S)(r:List T×B):Prop:=∃N,∀n k,N<=n->N<=k->QbQ (step n) k s=some r
theorem EvL.done{S T B:Type}{step:Nat->S->Option (List T×Ctl S B)}{s:S}{z:List T}{b:B}(h:Ev (fun n=>step n s) (z,.done b)):EvL step s (z,b):=by
 obtain⟨N,h⟩:=h
 refine⟨N+1,fun n k hn hk=>?_⟩
 obtain⟨j,rfl⟩:∃j,k=j+1:=⟨k-1,by omega⟩
 simp only[QbQ,h n (by omega),Option.bind_some]
theorem EvL.cont{S T B:Type}{step:Nat->S->Option (List T×Ctl S B)}{s s':S}{z ys:List T}{b:B}(h:Ev (fun n=>step n s) (z,.cont s'))(q:EvL step s' (ys,b)):EvL step s (z++ys,b):=by
 obtain⟨N,h⟩:=h
 obtain⟨M,q⟩:=q
 refine⟨max N M+1,fun n k hn hk=>?_⟩
 obtain⟨j,rfl⟩:∃j,k=j+1:=⟨k-1,by omega⟩
 simp only[QbQ,h n (by omega),Option.bind_some,q n j (by omega) (by omega)]
theorem EvL.ev{S T B:Type}{step:Nat->S->Option (List T×Ctl S B)}{s:S}{r:List T×B}(h:EvL step s r):Ev (fun n=>QbQ (step n) n s) r:=by
 obtain⟨N,h⟩:=h
 exact⟨N,fun n hn=>h n n hn hn⟩
theorem EvL.eq{S T B:Type}{step:Nat->S->Option (List T×Ctl S B)}{s:S}{r r':List T×B}(h:EvL step s r)(e:r=r'):EvL step s r':=e▸h
theorem Qf7{T B:Type}(step:List T->T->Option (Ctl (List T) B))(hs:∀s x,s.length<4294967296->step s x=some (.cont (s++[x]))):∀(l s:List T),s.length+l.length<=4294967295->Qf8 step l s=some (.cont (s++l))
 |[],s,_=>by simp[Qf8]
 |x::l,s,h=>by
  simp only[List.length_cons]at h
  simp only[Qf8,hs s x (by omega),Option.bind_some]
  rw[Qf7 step hs l (s++[x]) (by simp;omega)]
  simp
def selB(k:Int)(f:Fact):Bool:=(f.Kind==k)&&validS f
theorem Qe4(l:List Fact)(k:Int)(hl:l.length<=1000):Ev (fun n=>F_s n l k) (l.filter (selB k)):=by
 unfold F_s
 refine Ev.bind (v:=l.filter (selB k)) ?_ (Qa _)
 refine Ev.iter (fun i=>((l.take i).filter (selB k),(i:Int))) l.length rfl (fun i hi=>?_) ?_
 ·have ha:=YW (x:=l[i]) (show l.length<=4611686018427387904 by omega) (List.getElem?_eq_getElem hi)
  generalize l[i]=x at ha
  have hlen:((l.take i).filter (selB k)).length<=i:=Nat.le_trans (List.length_filter_le _ _) (by rw[List.length_take];omega)
  unfold F_fj
  simp only[ha.lt,cond_true,ha.ix,Option.bind_some,ha.nx]
  rw[ha.take,List.filter_append]
  refine Ev.bind (v:=selB k x) ?_ ?_
  ·unfold selB
   cases(x.Kind==k)with
   |false=>exact Qa _
   |true=>
    simp only[cond_true]
    refine Ev.bind (QeE x) ?_
    cases validS x<;>exact Qa _
  ·cases hx:selB k x with
   |false=>
    simp only[cond_false,Option.bind_some]
    rw[List.filter_cons_of_neg (by simp[hx]),List.filter_nil,List.append_nil]
    exact Qa _
   |true=>
    simp only[cond_true]
    rw[List.filter_cons_of_pos hx,List.filter_nil,QbD _ _ (by omega)]
    exact Qa _
 ·unfold F_fj
  simp only[Qdn,cond_false,List.take_length]
  exact Qa _
def silB(r:Read)(f:Fact):Bool:=(f.Kind==6)&&((f.Silence.Mat==r.Mat)&&((f.Silence.Epoch==r.Epoch)&&(decide (f.Silence.Lo<=r.Local)&&decide (r.Local<=f.Silence.Hi))))
theorem Qhw(l:List Fact)(r:Read)(hl:l.length<=1000):Ev (fun n=>F_y n l r) (l.any (silB r)):=by
 unfold F_y F_dz F_dd F_fp
 refine Ev.bind (Ev.contains l (silB r) (fun n x=>F_aa n x r) (by omega) fun x _=>?_) (Qa _)
 unfold F_aa silB
 refine Ev.bind (v:=(x.Kind==6)&&((x.Silence.Mat==r.Mat)&&((x.Silence.Epoch==r.Epoch)&&(decide (x.Silence.Lo<=r.Local)&&decide (r.Local<=x.Silence.Hi))))) ?_ (Qa _)
 exact Ev.and fun _=>Ev.and fun _=>Ev.and fun _=>Ev.and fun _=>Qa _
def plc(r:Read):hits_place:=⟨r.Chip,r.Mat,r.Epoch⟩
def useB(c:Course)(q:List Fact)(f:Fact):Bool:=decide (f.Read.Mat<(c.Mats.length:Int))&& !(q.any (silB f.Read))
abbrev MapT:=List (hits_place×Option (List Int))
def ogetD(m:MapT)(p:hits_place):List Int:=(QaQ m p).getD []
def stepQ(c:Course)(q:List Fact)(m:MapT)(f:Fact):MapT:=bif useB c q f then Q8 m (plc f.Read) (some (ogetD m (plc f.Read)++[f.Read.Local]))else m
def mapM'(c:Course)(q R:List Fact):MapT:=R.foldl (stepQ c q) []
def tms(c:Course)(q R:List Fact)(p:hits_place):List Int:=(R.filter fun f=>useB c q f&&decide (plc f.Read=p)).map (·.Read.Local)
theorem Qiz(m:MapT)(p p':hits_place)(v:List Int):QaQ (Q8 m p (some v)) p'=if p'=p then some v else QaQ m p':=by
 unfold QaQ
 rw[QeW]
 by_cases h:p'=p
 ·rw[if_pos h,if_pos h]
 ·rw[if_neg h,if_neg h]
structure MapOk (c:Course) (q R:List Fact) (m:MapT):Prop where
 nd:(m.map (·.1)).Nodup
 get:∀p,QaQ m p=some (tms c q R p)
 key:∀p,p∈m.map (·.1)↔ ∃f∈R,useB c q f=true/\plc f.Read=p
 len:m.length<=R.length
theorem Qf0(c:Course)(q R:List Fact)(f:Fact)(p:hits_place):tms c q (R++[f]) p=tms c q R p++(if useB c q f=true/\plc f.Read=p then[f.Read.Local]else[]):=by
 unfold tms
 rw[List.filter_append,List.map_append]
 congr 1
 by_cases h:useB c q f=true/\plc f.Read=p
 ·rw[if_pos h,List.filter_cons_of_pos (by simp[h.1,h.2])];rfl
 ·rw[if_neg h,List.filter_cons_of_neg (by simpa using h)];rfl
theorem Qdt(c:Course)(q R:List Fact):MapOk c q R (mapM' c q R):=by
 have gen:∀(r done:List Fact) (m:MapT),MapOk c q done m->MapOk c q (done++r) (r.foldl (stepQ c q) m):=by
  intro r
  induction r with
  |nil=>intro done m h;simpa using h
  |cons f r ih=>
   intro done m h
   have e:done++f::r=(done++[f])++r:=by simp
   rw[e,List.foldl_cons]
   refine ih (done++[f]) _ ?_
   unfold stepQ
   cases hu:useB c q f with
   |false=>
    simp only[cond_false]
    refine⟨h.nd,fun p=>?_,fun p=>?_,by have:=h.len;simp;omega⟩
    ·rw[h.get p,Qf0,hu];simp
    ·rw[h.key p];simp[hu]
   |true=>
    simp only[cond_true]
    have hk:=QeV m (plc f.Read) (some (ogetD m (plc f.Read)++[f.Read.Local]))
    have hk':(Q8 m (plc f.Read) (some (ogetD m (plc f.Read)++[f.Read.Local]))).map (·.1)=if plc f.Read∈m.map (·.1)then m.map (·.1)else m.map (·.1)++[plc f.Read]:=hk
    refine⟨?_,fun p=>?_,fun p=>?_,?_⟩
    ·rw[hk']
     split
     ·exact h.nd
     ·rename_i hn
      refine List.nodup_append.2 ⟨h.nd,by simp,fun a ha b hb=>?_⟩
      simp only[List.mem_singleton]at hb
      subst hb
      exact fun e=>hn (e▸ha)
    ·rw[Qiz,Qf0]
     by_cases hp:p=plc f.Read
     ·rw[if_pos hp,hp,if_pos ⟨hu,rfl⟩]
      unfold ogetD
      rw[h.get];rfl
     ·rw[if_neg hp,h.get p,if_neg (fun z=>hp z.2.symm),List.append_nil]
    ·rw[hk']
     have h1:=h.key p
     by_cases hm:plc f.Read∈m.map (·.1)
     ·rw[if_pos hm,h1]
      constructor
      ·rintro⟨g,g1,g2⟩;exact⟨g,by simp[g1],g2⟩
      ·rintro⟨g,g1,g2,g3⟩
       rcases List.mem_append.1 g1 with g1|g1
       ·exact⟨g,g1,g2,g3⟩
       ·simp only[List.mem_singleton]at g1
        subst g1
        exact h1.1 (g3▸hm)
     ·rw[if_neg hm,List.mem_append,h1,List.mem_singleton]
      constructor
      ·rintro(⟨g,g1,g2⟩|rfl)
       ·exact⟨g,by simp[g1],g2⟩
       ·exact⟨f,by simp,hu,rfl⟩
      ·rintro⟨g,g1,g2,g3⟩
       rcases List.mem_append.1 g1 with g1|g1
       ·exact .inl ⟨g,g1,g2,g3⟩
       ·simp only[List.mem_singleton]at g1
        subst g1
        exact .inr g3.symm
    ·have:=congrArg List.length hk'
     rw[List.length_map]at this
     rw[this,List.length_append,List.length_singleton]
     have:=h.len
     split<;>simp<;>omega
 have:=gen R [] [] ⟨by simp,fun p=>by simp[QaQ,Qal,tms],fun p=>by simp,by simp⟩
 simpa[mapM']using this
theorem Qfp(c:Course)(q R:List Fact)(p:hits_place):(tms c q R p).length<=R.length:=by
 unfold tms;rw[List.length_map];exact List.length_filter_le _ _
theorem Qhx(c:Course)(q R:List Fact)(hq:q.length<=1000)(hR:R.length<=1000):Ev (fun n=>iter (F_fb n c q R) n ([],0)) (mapM' c q R):=by
 unfold mapM'
 refine Qbj R (stepQ c q) [] (fun a i=>(a,(i:Int))) (fun a=>a) (by omega) rfl (fun i x a ha hm=>?_) ?_
 ·have ok:=Qdt c q (R.take i)
  have hm':a=mapM' c q (R.take i):=hm
  rw[<- hm']at ok
  unfold F_fb
  simp only[ha.lt,cond_true,ha.ix,Option.bind_some,ha.nx]
  refine Ev.bind (v:=useB c q x) ?_ ?_
  ·unfold useB
   refine Ev.and fun _=>Ev.bind (Qhw q x.Read hq) (Qa _)
  ·unfold stepQ
   cases hu:useB c q x with
   |false=>exact Qa _
   |true=>
    simp only[cond_true]
    have hget:=ok.get (plc x.Read)
    have hp:∃p,Qgg a (plc x.Read)=some p:=by unfold Qgg;rw[hget];exact⟨_,rfl⟩
    obtain⟨p,hp⟩:=hp
    obtain⟨e1,e2⟩:=Qhk (rows:=p.1++[x.Read.Local]) ok.nd hp
    rw[hget]at e1
    have e1':p.1=tms c q (R.take i) (plc x.Read):=Option.some.inj e1
    have hlen:p.1.length<=i:=by rw[e1'];exact Nat.le_trans (Qfp _ _ _ _) (by rw[List.length_take];omega)
    have hi:=ha.lt'
    show Ev (fun n=>(((Qgg a (plc x.Read)).bind fun v61=>(app v61.1 [x.Read.Local]).bind fun l62=>(QcK v61.2.1 v61.2.2 l62).bind fun m63=>some m63):Option MapT).bind fun b58=>some (Ctl.cont (b58,((i+1:Nat):Int)))) _
    rw[hp,Option.bind_some,QbD _ _ (by omega),Option.bind_some,e2]
    unfold ogetD
    rw[hget, <- e1']
    exact Qa _
 ·unfold F_fb
  simp only[Qdn,cond_false]
  exact Qa _
def cmpPl(x y:hits_place):Int:=orL [cmpI x.chip y.chip,cmpI x.mat y.mat,cmpI x.epoch y.epoch]
def ltPl(x y:hits_place):Prop:=x.chip<y.chip\/(x.chip=y.chip/\(x.mat<y.mat\/(x.mat=y.mat/\x.epoch<y.epoch)))
theorem or3(n:Nat)(a b d:Int):F_bj (n+4) [a,b,d]=some (orL [a,b,d]):=by
 unfold F_bj
 have s0:F_cu (n+4) [a,b,d] 0=bif a != 0 then some (.done (.done a))else some (.cont 1):=rfl
 have s1:F_cu (n+4) [a,b,d] 1=bif b != 0 then some (.done (.done b))else some (.cont 2):=rfl
 have s2:F_cu (n+4) [a,b,d] 2=bif d != 0 then some (.done (.done d))else some (.cont 3):=rfl
 have s3:F_cu (n+4) [a,b,d] 3=some (.done (.cont ())):=rfl
 unfold orL orL orL orL
 rw[iter,s0]
 cases q:(a != 0)with
 |true=>rfl
 |false=>
  simp only[cond_false]
  rw[iter,s1]
  cases q2:(b != 0)with
  |true=>rfl
  |false=>
   simp only[cond_false]
   rw[iter,s2]
   cases q3:(d != 0)with
   |true=>rfl
   |false=>
    simp only[cond_false]
    rw[iter,s3]
    rfl
theorem Qgb(n:Nat):(fun x y=>F_w (n+4) x y)=fun x y=>some (cmpPl x y):=by
 funext x y
 unfold F_w cmpPl
 simp only[Qlt,Option.bind_some,or3]
theorem Yk(x y:hits_place):cmpPl x y<0↔ltPl x y:=by
 unfold cmpPl orL orL orL orL ltPl
 have e:∀a b:Int,(cmpI a b != 0)= !decide (a=b):=fun a b=>by
  rw[Bool.eq_iff_iff]
  simp[QiQ]
 rw[e,e,e]
 by_cases h1:x.chip=y.chip
 ·by_cases h2:x.mat=y.mat
  ·by_cases h3:x.epoch=y.epoch
   ·simp[h1,h2,h3]
   ·simp only[h1,h2,h3,decide_true,decide_false,Bool.not_true,Bool.not_false,cond_true,cond_false,QfH,true_and,false_and,or_false];omega
  ·simp only[h1,h2,decide_true,decide_false,Bool.not_true,Bool.not_false,cond_true,cond_false,QfH,true_and,false_and,or_false];omega
 ·simp only[h1,decide_false,Bool.not_false,cond_true,QfH,true_and,false_and,or_false]
theorem QcI{x y:hits_place}(h1:x.chip=y.chip)(h2:x.mat=y.mat)(h3:x.epoch=y.epoch):x=y:=by
 cases x;cases y;simp_all
def sortPl(l:List hits_place):List hits_place:=Y4 (ltO fun x y=>some (cmpPl x y)) l
theorem Qjo(l:List hits_place):Qdf (ltO fun x y=>some (cmpPl x y)) l:=
 ⟨fun x _=>by simp only[ltO,decide_eq_false_iff_not];rw[Yk];unfold ltPl;omega,fun x _ y _ z _ a b=>by simp only[ltO,decide_eq_true_eq]at*;rw[Yk]at*;unfold ltPl at*;omega,fun x _ y _ z _ a b=>by simp only[ltO,decide_eq_false_iff_not]at*;rw[Yk]at*;unfold ltPl at*;omega⟩
theorem Qir(n:Nat)(l:List hits_place)(hl:l.length<=1048576):QcX (fun x y=>F_w (n+4) x y) l=some (sortPl l):=by
 rw[Qgb]
 refine Qjv (Nat.le_trans hl (by decide)) cmpPl (fun _ _ _ _=>rfl) (fun x _=>?_) (fun x _ y _ z _=>?_) (fun x _ y _ z _=>?_) (fun x _ y _=>?_)
 ·rw[Yk];unfold ltPl;omega
 ·rw[Yk,Yk,Yk];unfold ltPl;omega
 ·rw[Yk,Yk,Yk];unfold ltPl;omega
 ·rw[Yk,Yk]
  unfold ltPl
  intro h1 h2
  exact QcI (by omega) (by omega) (by omega)
theorem YX(l:List hits_place):(sortPl l).Perm l:=QL _ l
theorem Qg8{l m:List hits_place}(h:l.Perm m):sortPl l=sortPl m:=by
 refine Qa8 ((QL _ l).trans (h.trans (QL _ m).symm)) (fun x _ y _ a b=>?_) (Yx (Qjo l)) (Yx (Qjo m))
 simp only[ltO,decide_eq_false_iff_not]at a b
 rw[Yk]at a b
 unfold ltPl at a b
 exact QcI (by omega) (by omega) (by omega)
theorem Qiq{l:List hits_place}(h:l.Nodup):(sortPl l).Pairwise ltPl:=by
 have h1:(sortPl l).Pairwise (fun a b=>ltO (fun x y=>some (cmpPl x y)) b a=false):=Yx (Qjo l)
 have h2:(sortPl l).Pairwise (· ≠ ·):=(YX l).symm.nodup h
 refine List.Pairwise.imp (R:=fun a b=>ltO (fun x y=>some (cmpPl x y)) b a=false/\a≠b) (fun {a b} q=>?_) (h1.and h2)
 obtain⟨q1,q2⟩:=q
 simp only[ltO,decide_eq_false_iff_not]at q1
 rw[Yk]at q1
 unfold ltPl at*
 by_cases z:a.chip<b.chip\/(a.chip=b.chip/\(a.mat<b.mat\/(a.mat=b.mat/\a.epoch<b.epoch)))
 ·exact z
 ·exact absurd (QcI (by omega) (by omega) (by omega)) q2
structure ReadOk (r:Read):Prop where
 mat:0<=r.Mat/\r.Mat<=39
 epoch:0<=r.Epoch/\r.Epoch<=255
 chip:0<=r.Chip/\r.Chip<=1048576
 loc: -1099511627776<=r.Local/\r.Local<=1099511627776
theorem QdD{f:Fact}(h:selB 2 f=true):ReadOk f.Read:=by
 unfold selB at h
 simp only[Bool.and_eq_true]at h
 have hk:f.Kind=2:=by simpa using h.1
 have hv:=h.2
 rw[Qbz,QgI]at hv
 simp only[Bool.and_eq_true]at hv
 have hc:=hv.1.2
 unfold contR at hc
 rw[hk]at hc
 have hc':(true&&(nb f.Read.Mat 0 39&&(nb f.Read.Epoch 0 255&&(nb f.Read.Chip 0 1048576&&(nb f.Read.Local (-1099511627776) 1099511627776&&true)))))=true:=hc
 simp only[Bool.and_eq_true,QdY]at hc'
 obtain⟨_,h1,h2,h3,h4,_⟩:=hc'
 exact⟨h1,h2,h3,h4⟩
def mkH(p:hits_place)(g:Int×Int):Hit:={Mat:=p.mat,Epoch:=p.epoch,Chip:=p.chip,First:=g.1,Last:=g.2}
section
variable {c:Course}{ts:List Int}
theorem ev_l5(hl:ts.length<=1000)(hb:∀t∈ts,-1099511627776<=t/\t<=1099511627776):∀(r:List Int) (j:Nat) (f last:Int),ts.drop j=r->1<=j->j<=ts.length->ts[j-1]?=some last->
  ∃(e:Nat) (last':Int),j<=e/\e<=ts.length/\ts[e-1]?=some last'/\EvI (fun n=>F_cp n c ts) (j:Int) (e:Int)/\extG c.Faults.Window f last r=(f,last')::grp c.Faults.Window (ts.drop e):=by
 intro r
 induction r with
 |nil=>
  intro j f last hr h1 hj hl'
  have hlen:ts.length<=j:=List.drop_eq_nil_iff.1 hr
  refine⟨j,last,Nat.le_refl _,hj,hl',EvI.done ?_,?_⟩
  ·unfold F_cp
   simp only[Yi hr hj,cond_false,Option.bind_some]
   exact Qa _
  ·rw[hr];rfl
 |cons b r ih=>
  intro j f last hr h1 hj hl'
  obtain⟨ha,hr'⟩:=QE (by omega) hr
  have hjj:IntKind.i64.wrap ((j:Int)-1)=((j-1:Nat):Int):=by rw[Q0 (by omega) (by omega)];omega
  have hbb:=hb b ha.mem
  have hbl:=hb last (List.mem_of_getElem? hl')
  have hw:IntKind.i64.wrap (b-last)=b-last:=Q0 (by omega) (by omega)
  by_cases h:b-last<=c.Faults.Window
  ·obtain⟨e,last',e1,e2,e3,e4,e5⟩:=ih (j+1) f b hr' (by omega) (by have:=ha.lt';omega) (by rw[Nat.add_sub_cancel];exact ha.get)
   refine⟨e,last',by omega,e2,e3,EvI.cont ?_ e4,?_⟩
   ·unfold F_cp
    simp only[ha.lt,cond_true,ha.ix,Option.bind_some,ha.nx,hjj,Qbd hl',hw,Yu h]
    exact Qa _
   ·simp only[extG,if_pos h];exact e5
  ·refine⟨j,last,Nat.le_refl _,hj,hl',EvI.done ?_,?_⟩
   ·unfold F_cp
    simp only[ha.lt,cond_true,ha.ix,Option.bind_some,hjj,Qbd hl',hw,Yy h,cond_false]
    exact Qa _
   ·rw[hr];simp only[extG,if_neg h,grp]
theorem ev_l4(p:hits_place)(hl:ts.length<=1000)(hb:∀t∈ts,-1099511627776<=t/\t<=1099511627776):∀(k i:Nat),ts.length-i=k->i<=ts.length->
  EvL (fun n=>F_ff n c p ts) (i:Int) ((grp c.Faults.Window (ts.drop i)).map (mkH p),()):=by
 intro k
 induction k using Nat.strongRecOn with
 |_ k ih=>
 intro i hk hi
 cases hr:ts.drop i with
 |nil=>
  refine EvL.done ?_
  unfold F_ff
  simp only[Yi hr hi,cond_false]
  exact Qa _
 |cons a r=>
  obtain⟨ha,hr'⟩:=QE (by omega) hr
  have hlt:=ha.lt'
  obtain⟨e,last',e1,e2,e3,e4,e5⟩:=ev_l5 (c:=c) hl hb r (i+1) a a hr' (by omega) (by omega) (by rw[Nat.add_sub_cancel];exact ha.get)
  have hee:IntKind.i64.wrap ((e:Int)-1)=((e-1:Nat):Int):=by rw[Q0 (by omega) (by omega)];omega
  have hn:=ih (ts.length-e) (by omega) e rfl e2
  have hg:grp c.Faults.Window (a::r)=(a,last')::grp c.Faults.Window (ts.drop e):=e5
  rw[hg]
  refine(EvL.cont (z:=[mkH p (a,last')]) (s':=(e:Int)) ?_ hn).eq rfl
  unfold F_ff
  simp only[ha.lt,cond_true,ha.nx]
  refine Ev.bind e4.ev ?_
  simp only[ha.ix,Option.bind_some,hee,Qbd e3]
  exact Qa _
end
theorem Qhj{m:MapT}{x y:hits_place}(h:y≠x):QaQ (YB m x) y=QaQ m y:=by
 have:Qal (YB m x) y=Qal m y:=by
  induction m with
  |nil=>rfl
  |cons p m ih=>
   have e:YB (p::m) x=(bif decide (p.1=x)then(p.1,none)else p)::YB m x:=rfl
   rw[e,YG,YG,ih]
   by_cases hp:p.1=x
   ·have:¬p.1=y:=fun z=>h (by rw[<- z,hp])
    simp[hp]
    rw[if_neg (fun z=>h z.symm),if_neg (fun z=>h z.symm)]
   ·simp[hp]
 unfold QaQ
 rw[this]
def grpP(c:Course)(T:hits_place->List Int)(p:hits_place):List Hit:=(grp c.Faults.Window (Y4 ltI (T p))).map (mkH p)
theorem ev_l3{c:Course}{ps:List hits_place}{T:hits_place->List Int}(hps:ps.length<=1000)(hT:∀p,(T p).length<=1000/\ ∀t∈T p,-1099511627776<=t/\t<=1099511627776):∀(r:List hits_place) (i:Nat) (m:MapT),ps.drop i=r->i<=ps.length->r.Nodup->(∀p∈r,QaQ m p=some (T p))->
  EvL (fun n=>F_fa n c ps) (m,(i:Int)) (r.flatMap (grpP c T),()):=by
 intro r
 induction r with
 |nil=>
  intro i m hr hi _ _
  refine EvL.done ?_
  unfold F_fa
  simp only[Yi hr hi,cond_false]
  exact Qa _
 |cons p r ih=>
  intro i m hr hi hn hg
  obtain⟨ha,hr'⟩:=QE (by omega) hr
  have hlt:=ha.lt'
  rw[List.nodup_cons]at hn
  have hn2:=ih (i+1) (YB m p) hr' (by omega) hn.2 (fun y hy=>by
   have hyp:y≠p:=by rintro rfl;exact hn.1 hy
   rw[Qhj hyp]
   exact hg y (by simp[hy]))
  rw[List.flatMap_cons]
  refine EvL.cont (s':=(YB m p,((i+1:Nat):Int))) ?_ hn2
  unfold F_fa
  have ht:Qgd m p=some (T p,YB m p):=by unfold Qgd;rw[hg p (by simp)];rfl
  obtain⟨hT1,hT2⟩:=hT p
  have hsl:(Y4 ltI (T p)).length=(T p).length:=(QL ltI _).length_eq
  simp only[ha.lt,cond_true,ha.ix,Option.bind_some,ha.nx,ht,Qju (T p) (by omega)]
  have h4:=ev_l4 (c:=c) (ts:=Y4 ltI (T p)) p (by omega) (fun t h=>hT2 t ((QL ltI _).mem_iff.1 h)) (Y4 ltI (T p)).length 0 rfl (Nat.zero_le _)
  rw[List.drop_zero]at h4
  unfold ap
  refine Ev.bind (h4.ev) ((Qa _).eq ?_)
  simp[grpP]
def hitsR(c:Course)(q R:List Fact):List Hit:=(sortPl ((mapM' c q R).map (·.1))).flatMap (grpP c (tms c q R))
def hitsL(c:Course)(l:List Fact):List Hit:=hitsR c (l.filter (selB 6)) (l.filter (selB 2))
theorem QeQ(n:Nat):∀(p:List (hits_place×Unit)) (s:List hits_place),s.length+p.length<=4294967295->QeA (F_ew n) (F_fm n) s p=some (s++p.map (·.1))
 |[],s,_=>by simp[QeA,F_fm]
 |e::p,s,h=>by
  simp only[List.length_cons]at h
  have:F_ew n s e=some (.cont (s++[e.1])):=by
   unfold F_ew
   rw[QbD _ _ (by omega)];rfl
  simp only[QeA,this]
  rw[QeQ n p (s++[e.1]) (by simp;omega)]
  simp
theorem Qk6{c:Course}{q R:List Fact}{p:hits_place}{t:Int}:t∈tms c q R p↔ ∃f∈R,useB c q f=true/\plc f.Read=p/\f.Read.Local=t:=by
 unfold tms
 rw[List.mem_map]
 constructor
 ·rintro⟨f,hf,rfl⟩
  rw[List.mem_filter]at hf
  obtain⟨h1,h2⟩:=hf
  simp only[Bool.and_eq_true,decide_eq_true_eq]at h2
  exact⟨f,h1,h2.1,h2.2,rfl⟩
 ·rintro⟨f,h1,h2,h3,rfl⟩
  exact⟨f,List.mem_filter.2 ⟨h1,by simp[h2,h3]⟩,rfl⟩
theorem ev_it(c:Course)(l:List Fact)(hl:l.length<=1000):Ev (fun n=>F_br n l c) (hitsL c l,()):=by
 unfold F_br hitsL
 have hq:(l.filter (selB 6)).length<=1000:=Nat.le_trans (List.length_filter_le _ _) hl
 have hR:(l.filter (selB 2)).length<=1000:=Nat.le_trans (List.length_filter_le _ _) hl
 have hRv:∀f∈l.filter (selB 2),ReadOk f.Read:=fun f hf=>QdD (List.mem_filter.1 hf).2
 refine Ev.bind (Qe4 l 6 hl) (Ev.bind (Qe4 l 2 hl) ?_)
 generalize l.filter (selB 6)=q at*
 generalize l.filter (selB 2)=R at*
 refine Ev.bind (Qhx c q R hq hR) ?_
 have ok:=Qdt c q R
 have hlen:=ok.len
 unfold hitsR
 generalize mapM' c q R=m at*
 have hsl:(sortPl (m.map (·.1))).length=m.length:=by rw[(YX _).length_eq,List.length_map]
 have h3:=ev_l3 (c:=c) (ps:=sortPl (m.map (·.1))) (T:=tms c q R) (by omega) (fun p=>⟨Nat.le_trans (Qfp c q R p) hR,fun t ht=>by
  obtain⟨f,f1,f2,f3,rfl⟩:=Qk6.1 ht
  exact(hRv f f1).loc⟩) (sortPl (m.map (·.1))) 0 m rfl (Nat.zero_le _) ((YX _).symm.nodup ok.nd) (fun p _=>ok.get p)
 obtain⟨N,hN⟩:=h3.ev
 refine⟨N+4,fun n hn=>QlA fun p hp=>?_⟩
 have hpl:p.length=m.length:=by rw[hp.length_eq];simp[QeU]
 rw[QeQ n p [] (by simp;omega)]
 obtain⟨k,rfl⟩:∃k,n=k+4:=⟨n-4,by omega⟩
 simp only[List.nil_append,Option.bind_some]
 rw[Qir k _ (by rw[List.length_map];omega)]
 have he:sortPl (p.map (·.1))=sortPl (m.map (·.1)):=by
  refine Qg8 ?_
  have:=hp.map (fun e:hits_place×Unit=>e.1)
  refine this.trans (List.Perm.of_eq ?_)
  simp[QeU]
 rw[he,Option.bind_some]
 have:=hN (k+4) (by omega)
 unfold ap
 simp only at this
 rw[show((0:Nat):Int)=0 from rfl]at this
 rw[this]
 simp
def inS(c:Course)(l:List Fact)(p:hits_place)(t:Int):Prop:=∃f∈l,selB 2 f=true/\useB c (l.filter (selB 6)) f=true/\plc f.Read=p/\f.Read.Local=t
def plH(h:Hit):hits_place:=⟨h.Chip,h.Mat,h.Epoch⟩
def ltH(W:Int)(a b:Hit):Prop:=ltPl (plH a) (plH b)\/(plH a=plH b/\a.Last+W<b.First)
structure HitsOk (c:Course) (S:hits_place->Int->Prop) (x:List Hit):Prop where
 mem:∀h,h∈x↔IsHit c.Faults.Window (S (plH h)) h.First h.Last
 ord:x.Pairwise (ltH c.Faults.Window)
 cov:∀p t,S p t->∃h∈x,plH h=p/\h.First<=t/\t<=h.Last
theorem Qlm(W:Int):∀l:List Int,(grp W l).length<=l.length:=by
 have:∀(l:List Int) (f last:Int),(extG W f last l).length<=l.length+1:=by
  intro l
  induction l with
  |nil=>intro f last;simp[extG]
  |cons b l ih=>
   intro f last
   simp only[extG]
   split
   ·have:=ih f b;simp;omega
   ·have:=ih b b;simp;omega
 intro l
 cases l with
 |nil=>simp[grp]
 |cons a l=>have:=this l a a;simpa[grp]using this
theorem QbW(l:List Int):(Y4 ltI l).Pairwise (· <= ·):=(Yx (Qh9 l)).imp fun {a b} h=>by simp[ltI]at h;exact h
theorem Qdw(c:Course)(l:List Fact)(hW:0<=c.Faults.Window):HitsOk c (inS c l) (hitsL c l):=by
 unfold hitsL hitsR
 have hS:∀p t,inS c l p t↔t∈tms c (l.filter (selB 6)) (l.filter (selB 2)) p:=by
  intro p t
  rw[Qk6]
  unfold inS
  simp only[List.mem_filter,and_assoc]
 generalize l.filter (selB 6)=q at*
 generalize l.filter (selB 2)=R at*
 have ok:=Qdt c q R
 have hg:∀p a b,(a,b)∈grp c.Faults.Window (Y4 ltI (tms c q R p))↔IsHit c.Faults.Window (inS c l p) a b:=fun p a b=>by
  rw[Qll hW (QbW _)]
  have:(fun t=>t∈Y4 ltI (tms c q R p))=inS c l p:=funext fun t=>propext (by rw[hS,(QL ltI _).mem_iff])
  rw[this]
 constructor
 ·intro h
  rw[List.mem_flatMap]
  constructor
  ·rintro⟨p,hp,hh⟩
   obtain⟨g,hg1,rfl⟩:=List.mem_map.1 hh
   exact(hg p g.1 g.2).1 hg1
  ·intro hh
   refine⟨plH h,?_,List.mem_map.2 ⟨(h.First,h.Last),(hg _ _ _).2 hh,by cases h;rfl⟩⟩
   rw[(YX _).mem_iff,ok.key]
   obtain⟨f,f1,f2,f3,f4⟩:=Qk6.1 ((hS _ _).1 hh.fa)
   exact⟨f,f1,f2,f3⟩
 ·rw[List.pairwise_flatMap]
  refine⟨fun p _=>?_,(Qiq ok.nd).imp fun {p p'} hlt x hx y hy=>?_⟩
  ·unfold grpP
   rw[List.pairwise_map]
   exact(Qd9 hW _ (QbW _)).2.2.imp fun {a b} h=>.inr ⟨rfl,h⟩
  ·obtain⟨g,_,rfl⟩:=List.mem_map.1 hx
   obtain⟨g',_,rfl⟩:=List.mem_map.1 hy
   exact .inl hlt
 ·intro p t ht
  have ht':=(hS p t).1 ht
  obtain⟨g,g1,g2,g3⟩:=(Qd9 hW _ (QbW (tms c q R p))).2.1 t ((QL ltI _).mem_iff.2 ht')
  refine⟨mkH p g,List.mem_flatMap.2 ⟨p,?_,List.mem_map.2 ⟨g,g1,rfl⟩⟩,rfl,g2,g3⟩
  rw[(YX _).mem_iff,ok.key]
  obtain⟨f,f1,f2,f3,f4⟩:=Qk6.1 ht'
  exact⟨f,f1,f2,f3⟩
theorem Qjp{α:Type}(f:α->List Hit)(k:Nat):∀l:List α,(∀x∈l,(f x).length<=k)->(l.flatMap f).length<=l.length*k
 |[],_=>by simp
 |x::l,h=>by
  rw[List.flatMap_cons,List.length_append,List.length_cons,Nat.add_mul,Nat.one_mul]
  have h1:=h x (by simp)
  have h2:=Qjp f k l fun y hy=>h y (by simp[hy])
  omega
theorem Qgm(c:Course)(l:List Fact)(hl:l.length<=1000):(hitsL c l).length<=1000000:=by
 unfold hitsL hitsR
 have hR:(l.filter (selB 2)).length<=1000:=Nat.le_trans (List.length_filter_le _ _) hl
 generalize l.filter (selB 6)=q at*
 generalize l.filter (selB 2)=R at*
 have ok:=(Qdt c q R).len
 refine Nat.le_trans (Qjp _ 1000 _ fun p _=>?_) ?_
 ·unfold grpP
  rw[List.length_map]
  refine Nat.le_trans (Qlm _ _) ?_
  rw[(QL ltI _).length_eq]
  exact Nat.le_trans (Qfp c q R p) hR
 ·rw[(YX _).length_eq,List.length_map]
  have:(mapM' c q R).length<=1000:=by omega
  omega
def allF(e:Int)(c:Course)(l:List Fact):List Hit:=bif e != 0 then[]else hitsL c l
theorem QhA{e:Int}(c:Course)(l:List Fact)(hl:l.length<=1000)(he:Ev (fun n=>F_r n c) e):Ev (fun n=>F_f n c l) (allF e c l):=by
 unfold F_f allF
 refine Ev.bind he ?_
 cases(e != 0)with
 |true=>exact Qa _
 |false=>
  simp only[cond_false]
  unfold F_ck
  simp only[Option.bind_some]
  refine Ev.bind (ev_it c l hl) ?_
  have hlen:=Qgm c l hl
  have:∀n,Qf8 (F_fn n) (hitsL c l) []=some (.cont ([]++hitsL c l)):=fun n=>Qf7 _ (fun s x hs=>by
   unfold F_fn
   rw[QbD _ _ hs];rfl) _ _ (by simp;omega)
  simp only[this,Option.bind_some,List.nil_append]
  exact Qa _
theorem Ql8:F_ef 300=some true:=by kernel_rfl
theorem QeJ{c:Course}(h:courseE c=0):0<=c.Faults.Window/\c.Faults.Window<=4294967296:=by
 have hn:numbersS c=true:=by
  unfold courseE at h
  cases h1:fitsS c with
  |false=>rw[h1]at h;simp at h
  |true=>
   cases h2:namesS c with
   |false=>rw[h1,h2]at h;simp at h
   |true=>
    cases h3:numbersS c with
    |false=>rw[h1,h2,h3]at h;simp at h
    |true=>rfl
 unfold numbersS at hn
 simp only[Bool.and_eq_true]at hn
 have hl:lastS c=true:=by simp only[hn]
 unfold lastS inR at hl
 simp only[Bool.and_eq_true,decide_eq_true_eq]at hl
 exact hl.2.1.1
theorem Qkr(c:Course)(hc:Course.wf c):∃b,Ev (fun n=>F_ac n c) b/\(b=true->FewOk c/\Ev (fun n=>F_r n c) (courseE c)):=by
 have w:=QgZ hc
 have q:=QhK hc
 obtain⟨t1,t2⟩:=Qk7 hc
 obtain⟨b,pb,fb⟩:=QfF c w q t1 t2
 exact⟨b,pb,fun hb=>⟨fb hb,QiJ c w q (fb hb) t1 t2⟩⟩
def chkFrom(ok:Nat->Bool):Nat->Nat->Bool
 |0,_=>true
 |d+1,i=>ok i&&chkFrom ok d (i+1)
theorem Qdc{ok:Nat->Bool}:∀(d i:Nat),chkFrom ok d i=true↔ ∀j,i<=j->j<i+d->ok j=true
 |0,i=>by simp[chkFrom];intro j h1 h2;omega
 |d+1,i=>by
  simp only[chkFrom,Bool.and_eq_true,Qdc d (i+1)]
  constructor
  ·rintro⟨h1,h2⟩ j h3 h4
   rcases Nat.lt_or_ge i j with q|q
   ·exact h2 j q (by omega)
   ·have:i=j:=by omega
    exact this▸h1
  ·intro h
   exact⟨h i (Nat.le_refl _) (by omega),fun j h1 h2=>h j (by omega) (by omega)⟩
def usedB(c:Course)(l:List Fact)(f:Fact):Bool:=selB 2 f&&useB c (l.filter (selB 6)) f
def usedR(c:Course)(l:List Fact):List Read:=(l.filter (usedB c l)).map (·.Read)
theorem Qj0(c:Course)(l:List Fact)(p:hits_place)(t:Int):inS c l p t↔ ∃r∈usedR c l,plc r=p/\r.Local=t:=by
 unfold inS usedR usedB
 constructor
 ·rintro⟨f,f1,f2,f3,f4,f5⟩
  exact⟨f.Read,List.mem_map.2 ⟨f,List.mem_filter.2 ⟨f1,by rw[f2,f3];rfl⟩,rfl⟩,f4,f5⟩
 ·rintro⟨r,hr,h1,h2⟩
  obtain⟨f,hf,rfl⟩:=List.mem_map.1 hr
  obtain⟨f1,f2⟩:=List.mem_filter.1 hf
  simp only[Bool.and_eq_true]at f2
  exact⟨f,f1,f2.1,f2.2,h1,h2⟩
theorem Qk5{c:Course}{l:List Fact}{r:Read}(h:r∈usedR c l):ReadOk r/\r.Mat<(c.Mats.length:Int):=by
 unfold usedR usedB at h
 obtain⟨f,hf,rfl⟩:=List.mem_map.1 h
 obtain⟨f1,f2⟩:=List.mem_filter.1 hf
 simp only[Bool.and_eq_true]at f2
 refine⟨QdD f2.1,?_⟩
 have:=f2.2
 unfold useB at this
 simp only[Bool.and_eq_true,decide_eq_true_eq]at this
 exact this.1
theorem QmC{c:Course}{S:hits_place->Int->Prop}{x:List Hit}(ok:HitsOk c S x)(hW:0<=c.Faults.Window){h:Hit}(hh:h∈x):¬ltH c.Faults.Window h h:=by
 have:=((ok.mem h).1 hh).le
 unfold ltH ltPl
 omega
section
variable (U:List Read) (h:Hit) (W:Int)
end
theorem QjB{α:Type}{R:α->α->Prop}:∀{x y:List α},x.Pairwise R->y.Pairwise R->(∀a,a∈x↔a∈y)->(∀a∈x,∀b∈x,R a b->¬R b a)->x=y
 |[],[],_,_,_,_=>rfl
 |[],b::y,_,_,h,_=>by have:=(h b).2 (by simp);simp at this
 |a::x,[],_,_,h,_=>by have:=(h a).1 (by simp);simp at this
 |a::x,b::y,hx,hy,h,hr=>by
  rw[List.pairwise_cons]at hx hy
  have e:a=b:=by
   have h1:=(h a).1 (by simp)
   have h2:=(h b).2 (by simp)
   rcases List.mem_cons.1 h1 with h1|h1
   ·exact h1
   ·rcases List.mem_cons.1 h2 with h2|h2
    ·exact h2.symm
    ·exact absurd (hx.1 b h2) (hr b (by simp[h2]) a (by simp) (hy.1 a h1))
  subst e
  have hx':a∉x:=fun q=>hr a (by simp) a (by simp) (hx.1 a q) (hx.1 a q)
  have hy':a∉y:=fun q=>hr a (by simp) a (by simp) (hy.1 a q) (hy.1 a q)
  have:x=y:=by
   refine QjB hx.2 hy.2 (fun c=>?_) (fun c hc d hd=>hr c (by simp[hc]) d (by simp[hd]))
   have:=h c
   simp only[List.mem_cons]at this
   constructor
   ·intro hc
    rcases this.1 (.inr hc)with q|q
    ·exact absurd (q▸hc) hx'
    ·exact q
   ·intro hc
    rcases this.2 (.inr hc)with q|q
    ·exact absurd (q▸hc) hy'
    ·exact q
  rw[this]
theorem Qgl{c:Course}{S T:hits_place->Int->Prop}{x y:List Hit}(hW:0<=c.Faults.Window)(hx:HitsOk c S x)(hy:HitsOk c T y)(h:∀p t,S p t↔T p t):x=y:=by
 have e:S=T:=funext fun p=>funext fun t=>propext (h p t)
 subst e
 refine QjB hx.ord hy.ord (fun a=>(hx.mem a).trans (hy.mem a).symm) fun a ha b hb h1 h2=>?_
 have i1:=((hx.mem a).1 ha).le
 have i2:=((hx.mem b).1 hb).le
 have sym:plH a=plH b->(plH a).chip=(plH b).chip/\(plH a).mat=(plH b).mat/\(plH a).epoch=(plH b).epoch:=fun q=>by rw[q];exact⟨rfl,rfl,rfl⟩
 unfold ltH ltPl at h1 h2
 rcases h1 with h1|⟨h1,h1'⟩<;>rcases h2 with h2|⟨h2,h2'⟩
 ·omega
 ·have:=sym h2.symm;omega
 ·have:=sym h1;omega
 ·omega
theorem Qke(a b:List Hit)(ha:a.length<=1000000):Ev (fun n=>F_aw n a b) (decide (a=b)):=by
 unfold F_aw
 exact QlG a b (fun n=>F_fo n a b) (by omega) fun n s=>rfl
end Go.Sw
