/- The plain laws that a law needs, with no program in sight. -/
import Derived.Test.YtnlljbbflgfobaaGreatDoorW17Ck
set_option linter.unusedVariables false
set_option linter.unusedSimpArgs false
namespace Go.Sw
def inR(lo hi x:Int):Bool:=decide (lo<=x)&&decide (x<=hi)
theorem QeO(lo hi:Int)(l:List Int)(hl:l.length<=4611686018427387904):Ev (fun n=>F_a n lo hi l) (l.all (inR lo hi)):=by
 have h:Ev (fun n=>F_bo n l lo hi) (l.any fun x=> !inR lo hi x):=by
  unfold F_bo F_fc
  refine Ev.contains l _ (fun n x=>F_ar n x lo hi) hl fun x _=>?_
  unfold F_ar
  refine Ev.bind (v:= !inR lo hi x) ?_ (Qa _)
  refine(Qp fun h=>Qa _).eq ?_
  unfold inR
  rw[Bool.eq_iff_iff]
  simp
 unfold F_a
 refine Ev.bind h ((Qa _).eq ?_)
 rw[List.not_any_eq_all_not]
 simp
def okN(c:Nat):Bool:=(decide (97<=c)&&decide (c<=122))||(decide (48<=c)&&decide (c<=57))||decide (c=95)
def okAN(c:Nat):Bool:=decide (97<=c)&&decide (c<=122)
def okC(c:UInt8):Bool:=okN c.toNat
def okA(c:UInt8):Bool:=okAN c.toNat
def kwL:List (List UInt8):=[[99,111,117,114,115,101],[109,97,116,115],[115,116,97,114,116],[112,97,115,115],[101,110,100],[108,101,103],[116,111],[100,105,115,116,97,110,99,101],[103,117,110],[99,104,105,112],[115,108,111,116],[108,97,112,115],[108,97,112],[99,117,116,111,102,102],[101,120,116,114,97],[119,97,118,101],[111,102,102,101,110,99,101],[111,117,116],[99,97,116,101,103,111,114,121],[112,114,105,122,101],[97,108,108],[116,105,101,115],[105,102],[101,108,115,101],[97,110,100],[111,114],[110,111,116],[111,108,100,101,114],[121,111,117,110,103,101,114],[98,105,98],[100,114,97,119],[102,105,101,108,100],[115,104,111,114,116],[102,97,117,108,116,115],[109,105,115,115,101,115],[115,116,114,97,121,115],[119,105,110,100,111,119],[114,101,115,105,100,117,97,108],[100,114,105,102,116],[112,114,111,116,101,115,116],[102,101,101],[100,101,97,100,108,105,110,101]]
theorem Qfu(c d:Bool):(bif c then some c else some d)=some (c||d):=by cases c<;>rfl
theorem Qcp(c d:Bool):(bif c then some true else some d)=some (c||d):=by cases c<;>rfl
theorem Qeu(n:Nat)(s:List UInt8):F_by n s=some (kwL.contains s):=by
 unfold F_by
 simp only[Qfu,Qcp,Option.bind_some]
 simp only[kwL,List.contains_cons,List.contains_nil,Bool.or_false,Bool.or_assoc]
def kwsOf:List UInt8->List (List UInt8)
 |[]=>[]
 |b::l=>(bif b==32&& !(l.dropWhile fun c=>c != 32).isEmpty then[l.takeWhile fun c=>c != 32]else[])++kwsOf l
theorem Qc0:∀(l s:List UInt8),(∀c∈s,c≠32)->(s++[32]).isPrefixOf l=((l.takeWhile fun c=>c != 32)==s&& !(l.dropWhile fun c=>c != 32).isEmpty)
 |[],s,h=>by cases s<;>simp
 |b::l,[],h=>by
  by_cases e:b=32
  ·subst e;simp[List.isPrefixOf]
  ·have e1:(b != 32)=true:=by simpa using e
   have e2:(32==b)=false:=by simpa using fun q=>e q.symm
   simp[List.isPrefixOf,List.takeWhile_cons,e1,e2]
 |b::l,c::s,h=>by
  have hc:=h c (by simp)
  have ih:=Qc0 l s fun d hd=>h d (by simp[hd])
  by_cases e:b=32
  ·subst e
   have:(c==32)=false:=by simpa using hc
   simp[List.isPrefixOf,this]
  ·have e1:(b != 32)=true:=by simpa using e
   simp only[List.cons_append,List.isPrefixOf,List.takeWhile_cons,List.dropWhile_cons,e1,if_true,ih,List.cons_beq_cons]
   by_cases q:c=b
   ·subst q;simp
   ·have q1:(c==b)=false:=by simpa using q
    have q2:(b==c)=false:=by simpa using fun z=>q z.symm
    simp[q1,q2]
theorem contains_cons(b:UInt8)(l t:List UInt8)(ht:t≠[]):Lib.contains (b::l) t=(t.isPrefixOf (b::l)||Lib.contains l t):=by
 unfold Lib.contains
 rw[show Lib.index (b::l) t=if t.isPrefixOf (b::l)then 0 else if Lib.index l t== -1 then-1 else Lib.index l t+1 from rfl]
 cases h:t.isPrefixOf (b::l)with
 |true=>simp
 |false=>
  have:=Lib.index_ge l t
  by_cases q:Lib.index l t= -1
  ·simp[q]
  ·have q1:(Lib.index l t== -1)=false:=by simpa using q
   simp only[q1,Bool.false_or]
   rw[Bool.eq_iff_iff];simp;omega
theorem Qbw(s:List UInt8)(h:∀c∈s,c≠32):∀l,Lib.contains l (32::(s++[32]))=(kwsOf l).contains s
 |[]=>by simp[Lib.contains,Lib.index,kwsOf]
 |b::l=>by
  rw[contains_cons b l _ (by simp),Qbw s h l]
  simp only[kwsOf,List.isPrefixOf,Qc0 l s h]
  by_cases e:b=32
  ·subst e
   cases q: !(l.dropWhile fun c=>c != 32).isEmpty with
   |true=>
    simp only[q,beq_self_eq_true,Bool.true_and,Bool.and_true,cond_true,List.cons_append,List.nil_append,List.contains_cons]
    congr 1
    rw[Bool.eq_iff_iff];simp only[beq_iff_eq];exact⟨fun h=>h.symm,fun h=>h.symm⟩
   |false=>simp[q]
  ·have e1:(b==32)=false:=by simpa using e
   have e2:(32==b)=false:=by simpa using fun q=>e q.symm
   simp[e1,e2]
def wordsL:List UInt8:=[32,99,111,117,114,115,101,32,109,97,116,115,32,115,116,97,114,116,32,112,97,115,115,32,101,110,100,32,108,101,103,32,116,111,32,100,105,115,116,97,110,99,101,32,103,117,110,32,99,104,105,112,32,115,108,111,116,32,108,97,112,115,32,108,97,112,32,99,117,116,111,102,102,32,101,120,116,114,97,32,119,97,118,101,32,111,102,102,101,110,99,101,32,111,117,116,32,99,97,116,101,103,111,114,121,32,112,114,105,122,101,32,97,108,108,32,116,105,101,115,32,105,102,32,101,108,115,101,32,97,110,100,32,111,114,32,110,111,116,32,111,108,100,101,114,32,121,111,117,110,103,101,114,32,98,105,98,32,100,114,97,119,32,102,105,101,108,100,32,115,104,111,114,116,32,102,97,117,108,116,115,32,109,105,115,115,101,115,32,115,116,114,97,121,115,32,119,105,110,100,111,119,32,114,101,115,105,100,117,97,108,32,100,114,105,102,116,32,112,114,111,116,101,115,116,32,102,101,101,32,100,101,97,100,108,105,110,101,32]
theorem Qly:kwsOf wordsL=kwL:=by decide+kernel
def classTab:List Int:=(List.range 256).map fun i=>if 97<=i/\i<=122\/65<=i/\i<=90 then 2 else if 48<=i/\i<=57 then 3 else if i∈[123,125,40,41,91,93,59,44,61,60,62]then 4 else if i∈[32,9,10,13]then 1 else 0
theorem Qg2:Ev F_ax classTab:=by
 unfold F_ax
 refine Ev.bind (QbK (step:=F_dj 0) 40 (b:=(iter (F_dj 0) 40 (List.replicate 256 0,97)).getD []) (by decide+kernel)) ?_
 refine Ev.bind (QbK (step:=F_gl 0) 40 (b:=(iter (F_gl 0) 40 ((iter (F_dj 0) 40 (List.replicate 256 0,97)).getD [],48)).getD []) (by decide+kernel)) ?_
 generalize hb:(iter (F_gl 0) 40 ((iter (F_dj 0) 40 (List.replicate 256 0,97)).getD [],48)).getD []=b2
 refine Ev.bind (QbK (step:=F_gy 0) 40 (b:=(iter (F_gy 0) 40 (b2,0)).getD []) (by subst hb;decide+kernel)) ?_
 refine Ev.bind (QbK (step:=F_hc 0) 40 (b:=classTab) (by subst hb;decide+kernel)) ?_
 exact Ev.const (by decide+kernel)
theorem Qig:((List.range 256).all fun i=> !okN i||decide (classTab[i]?=some (if okAN i then 2 else if i=95 then 0 else 3)))=true:=by decide+kernel
theorem QjJ{c:UInt8}(h:okC c=true):QdQ 256 classTab (c.toNat:Int)=some (if okA c then 2 else if c.toNat=95 then 0 else 3):=by
 have h1:=List.all_eq_true.1 Qig c.toNat (List.mem_range.2 c.toNat_lt)
 unfold okC at h
 rw[h]at h1
 simp only[Bool.not_true,Bool.false_or,decide_eq_true_eq]at h1
 unfold QdQ
 rw[show Nat.beq classTab.length 256=true by decide+kernel,cond_true,QaP h1]
 rfl
def goodS(s:List UInt8):Bool:=decide (1<=s.length)&&decide (s.length<=24)&&(s.head?).any okA&&s.all okC
def isNameS(s:List UInt8):Bool:=goodS s&& !kwL.contains s
theorem Qh8(s:List UInt8)(h:goodS s=true):Ev (fun n=>F_cc n s) true:=by
 unfold goodS at h
 simp only[Bool.and_eq_true,decide_eq_true_eq,List.all_eq_true]at h
 obtain⟨⟨⟨h1,h2⟩,h3⟩,h4⟩:=h
 unfold F_cc
 refine Ev.bind Qg2 ?_
 refine Je (v:=List.replicate 256 0) (by decide+kernel) ?_
 refine Je (v:=classTab) (by decide+kernel) ?_
 refine Ev.bind (v:=Ctl.cont ()) (Ev.iter (fun i=>(i:Int)) s.length rfl (fun i hi=>?_) ?_) ?_
 ·have ha:=Jf (x:=s[i]) (by omega) (List.getElem?_eq_getElem hi)
  have hc:=h4 _ ha.mem
  unfold F_gv
  simp only[ha.lt,cond_true,ha.ix,Option.bind_some,QjJ hc,ha.nx]
  cases i with
  |zero=>
   have:okA s[0]=true:=by
    cases s with
    |nil=>simp at h1
    |cons c r=>simpa using h3
   simp[this]
   exact Qa _
  |succ i=>
   by_cases q:okA s[i+1]=true
   ·simp[q];exact Qa _
   ·by_cases q2:s[i+1].toNat=95
    ·simp[q,q2]
     exact Qa _
    ·simp[q,q2];exact Qa _
 ·unfold F_gv
  simp only[Qaj,cond_false]
  exact Qa _
 ·refine Ev.const ?_
  cases s with
  |nil=>simp at h1
  |cons c r=>rfl
theorem Qh3{s:List UInt8}(h:goodS s=true):∀c∈s,c≠32:=by
 unfold goodS at h
 simp only[Bool.and_eq_true,List.all_eq_true]at h
 rintro c hc rfl
 exact absurd (h.2 _ hc) (by decide)
theorem Qji{s:List UInt8}(h:goodS s=true):s.length<=24:=by
 unfold goodS at h
 simp only[Bool.and_eq_true,decide_eq_true_eq]at h
 exact h.1.1.2
theorem Qg3(s:List UInt8)(h:goodS s=true):Ev (fun n=>F_bb n s) (kwL.contains s):=by
 unfold F_bb
 refine Ev.bind (v:=kwL.contains s) ?_ (Qa _)
 refine Ev.bind (Qh8 s h) (QhP ?_)
 have hl:=Qji h
 refine Je (v:=[32]++s) (by unfold cat;rw[Nat.ble_eq_true_of_le (by simp;omega)];rfl) ?_
 refine Je (v:=[32]++s++[32]) (by unfold cat;rw[Nat.ble_eq_true_of_le (by simp;omega)];rfl) ?_
 refine Je (v:=kwL.contains s) ?_ (Qa _)
 show QdR wordsL ([32]++s++[32])=some (kwL.contains s)
 unfold QdR
 rw[show Nat.blt wordsL.length 4294967281=true by decide+kernel,cond_true]
 rw[show[32]++s++[32]=32::(s++[32])by simp,Qbw s (Qh3 h),Qly]
theorem ch_lt(c:UInt8)(k:Nat):decide ((c.toNat:Int)<(k:Int))=decide (c.toNat<k):=by
 rw[Bool.eq_iff_iff];simp
theorem badC(c:UInt8):(bif decide ((c.toNat:Int)<97)then(bif decide ((c.toNat:Int)<48)then some ((c.toNat:Int) != 95)else(bif decide (57<(c.toNat:Int))then some ((c.toNat:Int) != 95)else some false))else(bif decide (122<(c.toNat:Int))then(bif decide ((c.toNat:Int)<48)then some ((c.toNat:Int) != 95)else(bif decide (57<(c.toNat:Int))then some ((c.toNat:Int) != 95)else some false))else some false))=some (!okC c):=by
 unfold okC okN
 generalize c.toNat=k
 have e:((k:Int) != 95)= !decide (k=95):=by
  by_cases h:k=95
  ·subst h;rfl
  ·rw[decide_eq_false h];simp;omega
 rw[e]
 by_cases h1:k<48
 ·rw[QO (show(k:Int)<97 by omega),QO (show(k:Int)<48 by omega)]
  have a1:¬97<=k:=by omega
  have a2:¬48<=k:=by omega
  simp[a1,a2]
 ·rw[QS (show¬(k:Int)<48 by omega)]
  by_cases h2:k<=57
  ·rw[QO (show(k:Int)<97 by omega),QS (show¬57<(k:Int)by omega)]
   have a1:48<=k:=by omega
   simp[a1,h2]
  ·rw[QO (show 57<(k:Int)by omega)]
   by_cases h3:k<97
   ·rw[QO (show(k:Int)<97 by omega)]
    have a1:¬97<=k:=by omega
    simp[a1,h2]
   ·rw[QS (show¬(k:Int)<97 by omega)]
    by_cases h4:k<=122
    ·rw[QS (show¬122<(k:Int)by omega)]
     have a1:97<=k:=by omega
     simp[a1,h4]
    ·rw[QO (show 122<(k:Int)by omega)]
     simp[h2,h4]
theorem QeK(n:Nat)(s:List UInt8):(bif decide ((s.length:Int)<1)then some true else(bif decide (24<(s.length:Int))then some true else(idx s 0).bind fun x10=>(bif decide ((x10.toNat:Int)<97)then some true else(idx s 0).bind fun x12=>some (decide (122<(x12.toNat:Int))))))=some (!(decide (1<=s.length)&&decide (s.length<=24)&&(s.head?).any okA)):=by
 cases s with
 |nil=>rfl
 |cons c r=>
  rw[QS (show¬((c::r).length:Int)<1 by simp;omega),cond_false]
  by_cases h:(c::r).length<=24
  ·rw[QS (show¬24<((c::r).length:Int)by omega),cond_false]
   have e0:idx (c::r) 0=some c:=rfl
   simp only[e0,Option.bind_some]
   simp only[List.length_cons]at h
   have h':r.length<=23:=by omega
   simp only[List.head?_cons,Option.any_some,okA,okAN]
   rw[show(97:Int)=((97:Nat):Int)from rfl,ch_lt]
   by_cases h1:c.toNat<97
   ·have:¬97<=c.toNat:=by omega
    simp[h1,this]
   ·have a1:97<=c.toNat:=by omega
    simp[h1,a1,h']
    by_cases q:c.toNat<=122
    ·rw[QS (show¬122<(c.toNat:Int)by omega),QO q];rfl
    ·rw[QO (show 122<(c.toNat:Int)by omega),QS q];rfl
  ·rw[QO (show 24<((c::r).length:Int)by omega),cond_true]
   simp only[List.length_cons]at h
   have h':¬r.length<=23:=by omega
   simp[h']
theorem QeR(s:List UInt8)(hl:s.length<=1048576):Ev (fun n=>F_d n s) (isNameS s):=by
 unfold F_d
 refine Ev.bind (Ev.const (QeK 0 s)) ?_
 unfold isNameS
 cases hh:(decide (1<=s.length)&&decide (s.length<=24)&&(s.head?).any okA)with
 |false=>
  simp only[Bool.not_false,cond_true]
  have:goodS s=false:=by unfold goodS;rw[hh];rfl
  rw[this]
  exact Qa _
 |true=>
  simp only[Bool.not_true,cond_false]
  have hg:goodS s=s.all okC:=by unfold goodS;rw[hh];rfl
  refine Ev.bind (YI s (fun c=> !okC c) (fun i=>(i:Int)) (Ctl.done false) (Ctl.cont ()) (by omega) rfl (fun i x ha hq=>?_) (fun i x ha hq=>?_) ?_) ?_
  ·unfold F_gk
   simp only[ha.lt,cond_true,ha.ix,Option.bind_some,badC,hq,cond_false,ha.nx]
   exact Qa _
  ·unfold F_gk
   simp only[ha.lt,cond_true,ha.ix,Option.bind_some,badC,hq]
   exact Qa _
  ·unfold F_gk
   simp only[Qaj,cond_false]
   exact Qa _
  ·rw[hg]
   have e:s.any (fun c=> !okC c)= !s.all okC:=by rw[List.not_all_eq_any_not]
   rw[e]
   cases q:s.all okC with
   |true=>
    simp only[Bool.not_true,cond_false,Bool.true_and]
    exact Ev.bind (Qg3 s (hg.trans q)) (Qa _)
   |false=>
    simp only[Bool.not_false,cond_true,Bool.false_and]
    exact Qa _
theorem Qbg(s:List UInt8)(hl:s.length<=1048576):Ev (fun n=>F_al n s) (isNameS s):=by
 unfold F_al
 refine Ev.bind (Ev.const (QeK 0 s)) ?_
 unfold isNameS
 cases hh:(decide (1<=s.length)&&decide (s.length<=24)&&(s.head?).any okA)with
 |false=>
  simp only[Bool.not_false,cond_true]
  have:goodS s=false:=by unfold goodS;rw[hh];rfl
  rw[this]
  exact Qa _
 |true=>
  simp only[Bool.not_true,cond_false]
  have hg:goodS s=s.all okC:=by unfold goodS;rw[hh];rfl
  cases s with
  |nil=>simp at hh
  |cons c r=>
   have hc:okC c=true:=by
    simp only[Bool.and_eq_true,List.head?_cons,Option.any_some]at hh
    have:=hh.2
    unfold okA at this
    unfold okC okN
    unfold okAN at this
    rw[this];rfl
   have hr:r.length<=24:=by
    simp only[Bool.and_eq_true,decide_eq_true_eq,List.length_cons]at hh
    omega
   have hb:∀(i:Nat) (x:UInt8),At r i x->decide (((i+1:Nat):Int)<((c::r).length:Int))=true/\idx (c::r) ((i+1:Nat):Int)=some x/\IntKind.i64.wrap (((i+1:Nat):Int)+1)=((i+1+1:Nat):Int):=by
    intro i x ha
    have:=ha.lt'
    exact⟨decide_eq_true (by simp;omega),QaP (by simpa using ha.get),YJ (by omega)⟩
   refine Ev.bind (YI r (fun c=> !okC c) (fun i=>((i+1:Nat):Int)) (Ctl.done false) (Ctl.cont ()) (by omega) rfl (fun i x ha hq=>?_) (fun i x ha hq=>?_) ?_) ?_
   ·obtain⟨b1,b2,b3⟩:=hb i x ha
    unfold F_gj
    simp only[b1,cond_true,b2,Option.bind_some,badC,hq,cond_false,b3]
    exact Qa _
   ·obtain⟨b1,b2,b3⟩:=hb i x ha
    unfold F_gj
    simp only[b1,cond_true,b2,Option.bind_some,badC,hq]
    exact Qa _
   ·unfold F_gj
    rw[QS (by simp),cond_false]
    exact Qa _
   ·rw[hg]
    have e:r.any (fun c=> !okC c)= !(c::r).all okC:=by rw[List.all_cons,hc,Bool.true_and,List.not_all_eq_any_not]
    rw[e]
    cases q:(c::r).all okC with
    |true=>
     simp only[Bool.not_true,cond_false,Bool.true_and]
     exact Ev.bind (Ev.const (Qeu 0 _)) (Qa _)
    |false=>
     simp only[Bool.not_false,cond_true,Bool.false_and]
     exact Qa _
def diffS:List (List UInt8)->List (List UInt8)->Bool
 |_,[]=>true
 |seen,x::r=>isNameS x&& !seen.contains x&&diffS (seen++[x]) r
theorem Qea(l:List (List UInt8))(i:Nat)(x:List UInt8)(h:At l i x):diffS (l.take i) (l.drop i)=(isNameS x&& !(l.take i).contains x&&diffS (l.take (i+1)) (l.drop (i+1))):=by
 rw[h.drop,h.take];rfl
theorem Qbv{α:Type}(l:List α)(nm:α->List UInt8)(g:Nat->α->Option Unit)(hg:∀n x,g n x=some ())(hl:l.length<=1048576)(hn:∀x∈l,(nm x).length<=1048576):
  Ev (fun n=>((iter (fun s:(List (List UInt8×Bool))×Int=>bif decide (s.2<(l.length:Int))then(idx l s.2).bind fun x35=>(g n x35).bind fun r36=>((F_d n (nm x35)).bind fun r42=>(bif (!r42)then some true else(some (QW s.1 (nm x35) false)).bind fun v44=>some v44):Option Bool).bind fun b40=>(bif b40 then some (.done (.done false))else(some (Yq s.1 (nm x35) true)).bind fun m46=>some (.cont (m46,IntKind.i64.wrap (s.2+1))))else some (.done (.cont ()))) n ([],0):Option (Ctl Unit Bool)).bind fun b28=>
   match b28 with
   |.cont _=>some true
   |.done s=>some s:Option Bool)) (diffS [] (l.map nm)):=by
 have hl':l.length<=4611686018427387904:=by omega
 have hml:(l.map nm).length<=4611686018427387904:=by simpa using hl'
 have key:=Qbj (B:=Ctl Unit Bool) l (step:=fun n s=>bif decide (s.2<(l.length:Int))then(idx l s.2).bind fun x35=>(g n x35).bind fun r36=>((F_d n (nm x35)).bind fun r42=>(bif (!r42)then some true else(some (QW s.1 (nm x35) false)).bind fun v44=>some v44):Option Bool).bind fun b40=>(bif b40 then some (.done (.done false))else(some (Yq s.1 (nm x35) true)).bind fun m46=>some (.cont (m46,IntKind.i64.wrap (s.2+1))))else some (.done (.cont ())))
  (s0:=(([]:List (List UInt8×Bool)),(0:Int))) (fun i=>(Q3 nm true (l.take i),(i:Int))) (fun i=>bif diffS ((l.map nm).take i) ((l.map nm).drop i)then .cont ()else .done false) hl' rfl (fun i x ha=>?_) ?_
 ·refine Ev.bind key ?_
  simp only[List.take_zero,List.drop_zero]
  cases diffS [] (l.map nm)<;>exact Qa _
 ·have ha2:At (l.map nm) i (nm x):=Jf hml (by rw[List.getElem?_map,ha.get];rfl)
  simp only[Qea _ _ _ ha2]
  have hev:Ev (fun n=>((F_d n (nm x)).bind fun r42=>(bif (!r42)then some true else(some (QW (Q3 nm true (l.take i)) (nm x) false)).bind fun v44=>some v44):Option Bool)) (!(isNameS (nm x)&& !((l.map nm).take i).contains (nm x))):=by
   refine Ev.bind (QeR (nm x) (hn x ha.mem)) ?_
   cases isNameS (nm x)with
   |false=>exact Qa _
   |true=>
    refine Yi ((Qa _).eq ?_)
    rw[Qc2,List.map_take]
    by_cases h:nm x∈(l.map nm).take i
    ·rw[if_pos h];simp[h]
    ·rw[if_neg h];simp[h]
  cases hc:(isNameS (nm x)&& !((l.map nm).take i).contains (nm x))with
  |true=>
   rw[hc]at hev
   refine .inl ⟨?_,by simp⟩
   simp only[ha.lt,cond_true,ha.ix,Option.bind_some,hg]
   refine Ev.bind hev ?_
   simp only[Bool.not_true,cond_false,Option.bind_some,ha.nx]
   rw[ha.take,Qfe]
   exact Qa _
  |false=>
   rw[hc]at hev
   refine .inr ?_
   simp only[ha.lt,cond_true,ha.ix,Option.bind_some,hg]
   refine Ev.bind hev ?_
   simp only[Bool.not_false,cond_true,Bool.false_and,cond_false]
   exact Qa _
 ·simp only[Qaj,cond_false]
  rw[show(l.map nm).drop l.length=[]by apply List.drop_eq_nil_of_le;simp]
  exact Qa _
theorem QlG{α:Type}{l:List α}{x:α}(h:l.length<=140737488):app l [x]=some (l++[x]):=QkD l x (by omega)
theorem Qdl(l:List (List UInt8))(hl:l.length<=1048576)(hn:∀x∈l,x.length<=1048576):Ev (fun n=>F_o n l) (diffS [] l):=by
 unfold F_o
 have hl':l.length<=4611686018427387904:=by omega
 refine Ev.bind (Qbj (B:=Ctl Unit Bool) l (fun i=>(i:Int)) (fun i=>bif diffS (l.take i) (l.drop i)then .cont ()else .done false) hl' rfl (fun i x ha=>?_) ?_) ?_
 ·simp only[Qea _ _ _ ha]
  unfold F_gu
  simp only[ha.lt,cond_true,ha.ix,Option.bind_some]
  cases hx:isNameS x with
  |false=>
   refine .inr (Ev.bind ((Qbg x (hn x ha.mem)).eq hx) ?_)
   exact Qa _
  |true=>
   have hlt:=ha.lt'
   have inner:Ev (fun n=>iter (F_fo n l (i:Int)) n 0) (bif (l.take i).contains x then Ctl.done (Ctl.done (Ctl.done false))else Ctl.cont ()):=by
    have e:(l.take i).contains x=(l.take i).any fun y=>y==x:=by
     rw[Bool.eq_iff_iff];simp
    rw[e]
    have hlen:(l.take i).length=i:=by simp;omega
    refine YI (l.take i) (fun y=>y==x) (fun i=>(i:Int)) _ _ (by omega) rfl (fun j y hj hq=>?_) (fun j y hj hq=>?_) ?_
    ·have hj2:=hj.lt'
     have hjg:l[j]?=some y:=by
      have:=hj.get
      rw[List.getElem?_take]at this
      split at this
      ·exact this
      ·cases this
     unfold F_fo
     rw[QO (show(j:Int)<(i:Int)by omega)]
     simp only[cond_true,QaP hjg,ha.ix,Option.bind_some,hq,cond_false,hj.nx]
     exact Qa _
    ·have hj2:=hj.lt'
     have hjg:l[j]?=some y:=by
      have:=hj.get
      rw[List.getElem?_take]at this
      split at this
      ·exact this
      ·cases this
     unfold F_fo
     rw[QO (show(j:Int)<(i:Int)by omega)]
     simp only[cond_true,QaP hjg,ha.ix,Option.bind_some,hq]
     exact Qa _
    ·unfold F_fo
     rw[hlen,QS (show¬(i:Int)<(i:Int)by omega)]
     exact Qa _
   cases hc:(l.take i).contains x with
   |true=>
    rw[hc]at inner
    refine .inr (Ev.bind ((Qbg x (hn x ha.mem)).eq hx) (Yi (Ev.bind inner ?_)))
    exact Qa _
   |false=>
    rw[hc]at inner
    refine .inl ⟨Ev.bind ((Qbg x (hn x ha.mem)).eq hx) (Yi (Ev.bind inner ?_)),by simp⟩
    simp only[cond_false,ha.nx]
    exact Qa _
 ·unfold F_gu
  simp only[Qaj,cond_false,List.drop_length]
  exact Qa _
 ·simp only[List.take_zero,List.drop_zero]
  cases diffS [] l<;>exact Qa _
theorem Qaf{α β:Type}(l:List α)(f:α->β)(hl:l.length<=140737488):Ev (fun n=>iter (fun s:(List β)×Int=>bif decide (s.2<(l.length:Int))then(idx l s.2).bind fun x15=>(app s.1 [f x15]).bind fun l16=>some (Ctl.cont (l16,IntKind.i64.wrap (s.2+1)))else some (Ctl.done s.1)) n (([]:List β),(0:Int))) (l.map f):=by
 have e:∀l:List α,l.foldl (fun(a:List β) x=>a++[f x]) []=l.map f:=by
  intro l
  have gen:∀(l:List α) (a:List β),l.foldl (fun(a:List β) x=>a++[f x]) a=a++l.map f:=by
   intro l
   induction l with
   |nil=>intro a;simp
   |cons x l ih=>intro a;rw[List.foldl_cons,ih];simp
  simpa using gen l []
 rw[<- e l]
 refine QcF l (fun(a:List β) x=>a++[f x]) [] (fun a i=>(a,(i:Int))) (fun a=>a) (by omega) rfl (fun i x a ha haa=>?_) ?_
 ·rw[e]at haa
  have:a.length<=140737488:=by rw[haa];simp;omega
  simp only[ha.lt,cond_true,ha.ix,Option.bind_some,QlG this,ha.nx]
  exact Qa _
 ·simp only[Qaj,cond_false]
  exact Qa _
def namesS(c:Course):Bool:=isNameS c.Name&&(diffS [] (c.Mats.map (·.Name))&&(diffS [] (c.Distances.map (·.Name))&&(diffS [] (c.Waves.map (·.Name))&&(diffS [] (c.Offences.map (·.Name))&&diffS [] (c.Categories.map (·.Name))))))
structure CourseOk (c:Course):Prop where
 name:c.Name.length<=1048576
 mats:c.Mats.length<=1048576
 matsN:∀x∈c.Mats,x.Name.length<=1048576
 legs:c.Legs.length<=1048576
 dist:c.Distances.length<=1048576
 distN:∀x∈c.Distances,x.Name.length<=1048576
 cut:∀x∈c.Distances,x.Cutoffs.length<=1048576
 wave:c.Waves.length<=1048576
 waveN:∀x∈c.Waves,x.Name.length<=1048576
 off:c.Offences.length<=1048576
 offN:∀x∈c.Offences,x.Name.length<=1048576
 cat:c.Categories.length<=1048576
 catN:∀x∈c.Categories,x.Name.length<=1048576
 prize:c.Prizes.length<=1048576
theorem Qjs(c:Course)(w:CourseOk c):Ev (fun n=>F_bw n c) (namesS c):=by
 unfold F_bw namesS
 refine Ev.bind (v:=_) ?_ (Qa _)
 refine Ev.bind (QeR c.Name w.name) (Qf fun _=>?_)
 have h1:Ev (fun n=>F_bg n c.Mats) (diffS [] (c.Mats.map (·.Name))):=by unfold F_bg;exact Qbv c.Mats (·.Name) F_ep (fun _ _=>rfl) w.mats w.matsN
 have h2:Ev (fun n=>F_bu n c.Distances) (diffS [] (c.Distances.map (·.Name))):=by unfold F_bu;exact Qbv c.Distances (·.Name) F_fn (fun _ _=>rfl) w.dist w.distN
 have h3:Ev (fun n=>F_ba n c.Waves) (diffS [] (c.Waves.map (·.Name))):=by unfold F_ba;exact Qbv c.Waves (·.Name) F_el (fun _ _=>rfl) w.wave w.waveN
 have h4:Ev (fun n=>F_bq n c.Offences) (diffS [] (c.Offences.map (·.Name))):=by unfold F_bq;exact Qbv c.Offences (·.Name) F_fm (fun _ _=>rfl) w.off w.offN
 have h5:Ev (fun n=>F_ca n c.Categories) (diffS [] (c.Categories.map (·.Name))):=by unfold F_ca;exact Qbv c.Categories (·.Name) F_fd (fun _ _=>rfl) w.cat w.catN
 refine Ev.bind h1 (Qf fun _=>?_)
 refine Ev.bind h2 (Qf fun _=>?_)
 refine Ev.bind h3 (Qf fun _=>?_)
 refine Ev.bind h4 (Qf fun _=>?_)
 exact Ev.bind h5 (Qa _)
structure Short (c:Course):Prop where
 mats:c.Mats.length<=140737488
 dist:c.Distances.length<=140737488
 wave:c.Waves.length<=140737488
 off:c.Offences.length<=140737488
 cat:c.Categories.length<=140737488
theorem Qgh(c:Course)(w:CourseOk c)(s:Short c):Ev (fun n=>F_bc n c) (namesS c):=by
 unfold F_bc namesS
 refine Ev.bind (Qaf c.Mats (·.Name) s.mats) ?_
 refine Ev.bind (Qaf c.Distances (·.Name) s.dist) ?_
 refine Ev.bind (Qaf c.Waves (·.Name) s.wave) ?_
 refine Ev.bind (Qaf c.Offences (·.Name) s.off) ?_
 refine Ev.bind (Qaf c.Categories (·.Name) s.cat) ?_
 refine Ev.bind (v:=_) ?_ (Qa _)
 refine Ev.bind (Qbg c.Name w.name) (Qf fun _=>?_)
 have mk:∀{α:Type} (l:List α) (nm:α->List UInt8),l.length<=1048576->(∀x∈l,(nm x).length<=1048576)->Ev (fun n=>F_o n (l.map nm)) (diffS [] (l.map nm)):=by
  intro α l nm hl hn
  refine Qdl _ (by simpa using hl) fun x hx=>?_
  obtain⟨y,hy,rfl⟩:=List.mem_map.1 hx
  exact hn y hy
 refine Ev.bind (mk c.Mats (·.Name) w.mats w.matsN) (Qf fun _=>?_)
 refine Ev.bind (mk c.Distances (·.Name) w.dist w.distN) (Qf fun _=>?_)
 refine Ev.bind (mk c.Waves (·.Name) w.wave w.waveN) (Qf fun _=>?_)
 refine Ev.bind (mk c.Offences (·.Name) w.off w.offN) (Qf fun _=>?_)
 exact Ev.bind (mk c.Categories (·.Name) w.cat w.catN) (Qa _)
theorem QaF{n:Nat}(h:n<=1048576):IntKind.i64.wrap ((n:Int)-1)=(n:Int)-1:=Ya (by omega) (by omega)
theorem Jc(x lo hi:Int):Ev (fun n=>F_b n x lo hi) (inR lo hi x):=by
 unfold F_b inR
 exact Ev.bind (Qf fun _=>Qa _) (Qa _)
theorem Qd8(c:Course)(w:CourseOk c)(x:Int):Ev (fun n=>F_i n c x) (inR 0 ((c.Mats.length:Int)-1) x):=by
 unfold F_i
 rw[QaF w.mats]
 exact Ev.bind (Jc _ _ _) (Qa _)
mutual
def szP:Part->Nat
 |⟨_,_,ps⟩=>1+szPs ps
def szPs:List Part->Nat
 |[]=>0
 |p::r=>szP p+szPs r
end
theorem YF(p:Part):szP p=1+szPs p.Parts:=by cases p;rfl
theorem Y9{p:Part}:∀{l:List Part},p∈l->szP p<=szPs l
 |q::r,h=>by
  simp only[szPs]
  rcases List.mem_cons.1 h with rfl|h
  ·omega
  ·have:=Y9 h;omega
mutual
def partS(k:Int):Part->Bool
 |⟨m,laps,ps⟩=>bif laps==0 then inR 0 k m&&((ps.length:Int)==0)else inR 1 64 laps&&((m==0)&&(decide (0<(ps.length:Int))&&partsS k ps))
def partsS(k:Int):List Part->Bool
 |[]=>true
 |p::r=>partS k p&&partsS k r
end
theorem Qbt(k:Int)(p:Part):partS k p=bif p.Laps==0 then inR 0 k p.Mat&&((p.Parts.length:Int)==0)else inR 1 64 p.Laps&&((p.Mat==0)&&(decide (0<(p.Parts.length:Int))&&partsS k p.Parts)):=by cases p;rfl
theorem QaX(k:Int):∀l:List Part,partsS k l=l.all (partS k)
 |[]=>rfl
 |p::r=>by simp only[partsS,List.all_cons,QaX k r]
theorem Yr{p:Part}(h:Part.wf p):p.Parts.length<=1048576/\ ∀x∈p.Parts,Part.wf x:=by
 cases p
 simp only[Part.wf,Qcz]at h
 exact h.2.2.1
theorem Qv(lo hi x:Int):Ev (fun n=>F_a n lo hi [x]) (inR lo hi x):=(QeO lo hi [x] (by simp)).eq (by simp)
theorem QaI(lo hi x y:Int):Ev (fun n=>F_a n lo hi [x,y]) (inR lo hi x&&inR lo hi y):=(QeO lo hi [x,y] (by simp)).eq (by simp)
theorem Qjr(k:Int):∀(m:Nat) (l:List Part),szPs l<=m->l.length<=1048576->(∀x∈l,Part.wf x)->Ev (fun n=>F_g n l k) (partsS k l):=by
 intro m
 induction m with
 |zero=>
  intro l hm hl hw
  cases l with
  |nil=>
   refine YA ?_
   show Ev (fun n=>B_g (F_g n) n [] k) _
   unfold B_g F_cl F_bz
   exact YX [] (partS k) (fun n x=>F_ao (F_g n) n x k) (by simp) (by simp)
  |cons p r=>
   exfalso
   simp only[szPs,YF]at hm
   omega
 |succ m ih=>
  intro l hm hl hw
  refine YA ?_
  show Ev (fun n=>B_g (F_g n) n l k) _
  unfold B_g F_cl F_bz
  rw[QaX]
  refine YX l (partS k) (fun n x=>F_ao (F_g n) n x k) (by omega) fun p hp=>?_
  unfold F_ao
  rw[Qbt]
  have h1:=Y9 hp
  rw[YF]at h1
  obtain⟨w1,w2⟩:=Yr (hw p hp)
  refine Qbl (fun _=>?_) (fun _=>?_)
  ·exact Ev.bind (Ev.bind (Qv _ _ _) (Qf fun _=>Qa _)) (Qa _)
  ·exact Ev.bind (Ev.bind (Qv _ _ _) (Qf fun _=>Qf fun _=>Qf fun _=>Ev.bind (ih p.Parts (by omega) w1 w2) (Qa _))) (Qa _)
theorem Qh7(c:Course)(w:CourseOk c):∀(m:Nat) (l:List Part),szPs l<=m->l.length<=1048576->(∀x∈l,Part.wf x)->Ev (fun n=>F_k n c l) (partsS ((c.Mats.length:Int)-1) l):=by
 intro m
 induction m with
 |zero=>
  intro l hm hl hw
  cases l with
  |nil=>
   refine YA ?_
   show Ev (fun n=>B_k (F_k n) n c []) _
   unfold B_k
   exact⟨1,fun n hn=>by obtain⟨k,rfl⟩:∃k,n=k+1:=⟨n-1,by omega⟩;rfl⟩
  |cons p r=>
   exfalso
   simp only[szPs,YF]at hm
   omega
 |succ m ih=>
  intro l hm hl hw
  refine YA ?_
  show Ev (fun n=>B_k (F_k n) n c l) _
  unfold B_k
  rw[QaX]
  have step:∀(i:Nat) (x:Part),At l i x->Ev (fun n=>F_fx n c l (F_k n) (i:Int)) (bif partS ((c.Mats.length:Int)-1) x then .cont ((i+1:Nat):Int)else .done (.done false)):=by
   intro i x ha
   unfold F_fx
   simp only[ha.lt,cond_true,ha.ix,Option.bind_some,ha.nx]
   have h1:=Y9 ha.mem
   rw[YF]at h1
   obtain⟨w1,w2⟩:=Yr (hw x ha.mem)
   refine Ev.bind (Qf fun _=>Ev.bind (Qd8 c w _) (Qf fun _=>Qa _)) ?_
   refine Ev.bind (Ev.bind (Jc _ _ _) (Qf fun _=>Qf fun _=>Qf fun _=>Ev.bind (ih x.Parts (by omega) w1 w2) (Qa _))) ?_
   rw[Qbt]
   cases h0:(x.Laps==0)with
   |true=>
    have e0:x.Laps=0:=by simpa using h0
    simp only[cond_true,Bool.true_and]
    have:inR 1 64 x.Laps=false:=by rw[e0];rfl
    rw[this]
    simp only[Bool.false_and,Bool.not_false]
    generalize(inR 0 ((c.Mats.length:Int)-1) x.Mat&&((x.Parts.length:Int)==0))=b
    cases b<;>exact Qa _
   |false=>
    simp only[cond_false,Bool.false_and,Bool.not_false,cond_true]
    generalize(inR 1 64 x.Laps&&((x.Mat==0)&&(decide (0<(x.Parts.length:Int))&&partsS ((c.Mats.length:Int)-1) x.Parts)))=b
    cases b<;>exact Qa _
  refine Ev.bind (YI l (fun x=> !partS ((c.Mats.length:Int)-1) x) (fun i=>(i:Int)) (Ctl.done false) (Ctl.cont ()) (by omega) rfl (fun i x ha hq=>?_) (fun i x ha hq=>?_) ?_) ?_
  ·refine(step i x ha).eq ?_
   have:partS ((c.Mats.length:Int)-1) x=true:=by simpa using hq
   rw[this];rfl
  ·refine(step i x ha).eq ?_
   have:partS ((c.Mats.length:Int)-1) x=false:=by simpa using hq
   rw[this];rfl
  ·unfold F_fx
   simp only[Qaj,cond_false]
   exact Qa _
  ·have e:l.any (fun x=> !partS ((c.Mats.length:Int)-1) x)= !l.all (partS ((c.Mats.length:Int)-1)):=by rw[List.not_all_eq_any_not]
   rw[e]
   cases l.all (partS ((c.Mats.length:Int)-1))<;>exact Qa _
def legS(k:Int)(l:Leg):Bool:=(inR 0 k l.From&&inR 0 k l.To)&&((inR 0 68719476736 l.Min&&inR 0 68719476736 l.Max)&&decide (l.Min<=l.Max))
def cutS(k:Int)(x:Cutoff):Bool:=inR 0 k x.Mat&&(decide (1<=x.Lap)&&inR 0 1099511627776 x.Limit)
def distS(k:Int)(d:Distance):Bool:=inR 1 3 d.Timing&&(inR (-1) k d.Extra&&(partsS k d.Route&&d.Cutoffs.all (cutS k)))
def offS(o:Offence):Bool:=bif o.Out then(o.Time==0)&&(o.Laps==0)else bif o.Laps != 0 then(o.Time==0)&&inR 1 64 o.Laps else inR 0 68719476736 o.Time
def catS(x:Category):Bool:=(inR 0 120 x.From&&inR 0 120 x.To)&&decide (x.From<=x.To)
def prizeS(c:Course)(p:Prize):Bool:=inR 0 ((c.Distances.length:Int)-1) p.Distance&&(inR (-1) ((c.Categories.length:Int)-1) p.Category&&(inR 1 4000 p.Rank&&inR 1 1125899906842624 p.Amount))
def lastS(c:Course):Bool:=(inR 0 16 c.Faults.Misses&&inR 0 16 c.Faults.Strays)&&((inR 0 4294967296 c.Faults.Window&&inR 0 4294967296 c.Faults.Residual)&&(inR 0 100000 c.Faults.Drift&&(inR 0 1125899906842624 c.Fee&&inR 0 1099511627776 c.Deadline)))
def legKey(l:Leg):typing_ends:={from_:=l.From,to_:=l.To}
def prizeKey(p:Prize):typing_place:={distance:=p.Distance,category:=p.Category,rank:=p.Rank}
def numbersS(c:Course):Bool:=
 let k:=(c.Mats.length:Int)-1
 c.Mats.all (fun m=>inR 1 3 m.Kind)&&(c.Legs.all (legS k)&&(decide ((c.Legs.map legKey).Nodup)&&(c.Distances.all (distS k)&&(c.Waves.all (fun w=>inR 0 1099511627776 w.Gun)&&(c.Offences.all offS&&(c.Categories.all catS&&(c.Prizes.all (prizeS c)&&(decide ((c.Prizes.map prizeKey).Nodup)&&lastS c))))))))
structure PartsOk (c:Course):Prop where
 len:∀d∈c.Distances,d.Route.length<=1048576
 wf:∀d∈c.Distances,∀x∈d.Route,Part.wf x
theorem Qfp(l:List Leg)(hl:l.length<=1048576):Ev (fun n=>F_de n l) (decide ((l.map legKey).Nodup)):=by
 unfold F_de
 refine Ev.bind (Qbk l legKey true (by omega) (fun i x m ha=>?_) (fun m=>?_)) ((Qa _).eq ?_)
 ·unfold F_gt F_dm
  simp only[ha.lt,cond_true,ha.ix,Option.bind_some,ha.nx]
  exact Qa _
 ·unfold F_gt
  simp only[Qaj,cond_false]
  exact Qa _
 ·rw[Bool.eq_iff_iff]
  simp only[beq_iff_eq,decide_eq_true_eq]
  have:=QbO legKey true l
  rw[<- this.2]
  omega
theorem Qd7(l:List Prize)(hl:l.length<=1048576):Ev (fun n=>F_cj n l) (decide ((l.map prizeKey).Nodup)):=by
 unfold F_cj
 refine Ev.bind (Qbk l prizeKey true (by omega) (fun i x m ha=>?_) (fun m=>?_)) ((Qa _).eq ?_)
 ·unfold F_hb F_dt
  simp only[ha.lt,cond_true,ha.ix,Option.bind_some,ha.nx]
  exact Qa _
 ·unfold F_hb
  simp only[Qaj,cond_false]
  exact Qa _
 ·rw[Bool.eq_iff_iff]
  simp only[beq_iff_eq,decide_eq_true_eq]
  have:=QbO prizeKey true l
  rw[<- this.2]
  omega
theorem QgZ(c:Course)(w:CourseOk c)(q:PartsOk c):Ev (fun n=>F_cw n c) (numbersS c):=by
 unfold F_cw numbersS
 rw[QaF w.mats]
 refine Ev.bind (v:=_) ?_ (Qa _)
 have h1:Ev (fun n=>F_bl n c.Mats) (c.Mats.all fun m=>inR 1 3 m.Kind):=by
  unfold F_bl F_er F_eb
  refine YX c.Mats _ (fun n x=>F_cv n x) (by have:=w.mats;omega) fun x hx=>?_
  unfold F_cv
  exact Ev.bind (Qv _ _ _) (Qa _)
 have h2:Ev (fun n=>F_cm n c.Legs ((c.Mats.length:Int)-1)) (c.Legs.all (legS ((c.Mats.length:Int)-1))):=by
  unfold F_cm F_df F_dx
  refine YX c.Legs _ (fun n x=>F_bh n x _) (by have:=w.legs;omega) fun x hx=>?_
  unfold F_bh
  exact Ev.bind (Ev.bind (QaI _ _ _ _) (Qf fun _=>Ev.bind (QaI _ _ _ _) (Qf fun _=>Qa _))) (Qa _)
 have h4:Ev (fun n=>F_dd n c.Distances ((c.Mats.length:Int)-1)) (c.Distances.all (distS ((c.Mats.length:Int)-1))):=by
  unfold F_dd F_fl F_fp
  refine YX c.Distances _ (fun n x=>F_bd n x _) (by have:=w.dist;omega) fun x hx=>?_
  unfold F_bd
  have hc:Ev (fun n=>F_ck n x.Cutoffs ((c.Mats.length:Int)-1)) (x.Cutoffs.all (cutS ((c.Mats.length:Int)-1))):=by
   unfold F_ck F_ew F_ez
   refine YX x.Cutoffs _ (fun n x=>F_cq n x _) (by have:=w.cut x hx;omega) fun y hy=>?_
   unfold F_cq
   exact Ev.bind (Ev.bind (Qv _ _ _) (Qf fun _=>Qf fun _=>Ev.bind (Qv _ _ _) (Qa _))) (Qa _)
  exact Ev.bind (Ev.bind (Qv _ _ _) (Qf fun _=>Ev.bind (Qv _ _ _) (Qf fun _=>Ev.bind (Qjr _ _ x.Route (Nat.le_refl _) (q.len x hx) (q.wf x hx)) (Qf fun _=>Ev.bind hc (Qa _))))) (Qa _)
 have h5:Ev (fun n=>F_cp n c.Waves) (c.Waves.all fun w=>inR 0 1099511627776 w.Gun):=by
  unfold F_cp F_dq F_fh
  refine YX c.Waves _ (fun n x=>F_cu n x) (by have:=w.wave;omega) fun x hx=>?_
  unfold F_cu
  exact Ev.bind (Qv _ _ _) (Qa _)
 have h6:Ev (fun n=>F_da n c.Offences) (c.Offences.all offS):=by
  unfold F_da F_eg F_et
  refine YX c.Offences _ (fun n x=>F_cr n x) (by have:=w.off;omega) fun x hx=>?_
  unfold F_cr offS
  refine Qbl (fun _=>Ev.bind (Qf fun _=>Qa _) (Qa _)) fun _=>Qbl (fun _=>Ev.bind (Qf fun _=>Ev.bind (Qv _ _ _) (Qa _)) (Qa _)) fun _=>Ev.bind (Qv _ _ _) (Qa _)
 have h7:Ev (fun n=>F_cy n c.Categories) (c.Categories.all catS):=by
  unfold F_cy F_dy F_fg
  refine YX c.Categories _ (fun n x=>F_bj n x) (by have:=w.cat;omega) fun x hx=>?_
  unfold F_bj
  exact Ev.bind (Ev.bind (QaI _ _ _ _) (Qf fun _=>Qa _)) (Qa _)
 have h8:Ev (fun n=>F_be n c.Prizes c) (c.Prizes.all (prizeS c)):=by
  unfold F_be F_dr F_ek
  refine YX c.Prizes _ (fun n x=>F_cf n x c) (by have:=w.prize;omega) fun x hx=>?_
  unfold F_cf
  rw[QaF w.dist,QaF w.cat]
  exact Ev.bind (Ev.bind (Qv _ _ _) (Qf fun _=>Ev.bind (Qv _ _ _) (Qf fun _=>Ev.bind (Qv _ _ _) (Qf fun _=>Ev.bind (Qv _ _ _) (Qa _))))) (Qa _)
 refine Ev.bind h1 (Qf fun _=>Ev.bind h2 (Qf fun _=>Ev.bind (Qfp _ w.legs) (Qf fun _=>Ev.bind h4 (Qf fun _=>Ev.bind h5 (Qf fun _=>Ev.bind h6 (Qf fun _=>Ev.bind h7 (Qf fun _=>Ev.bind h8 (Qf fun _=>Ev.bind (Qd7 _ w.prize) (Qf fun _=>?_)))))))))
 exact Ev.bind (QaI _ _ _ _) (Qf fun _=>Ev.bind (QaI _ _ _ _) (Qf fun _=>Ev.bind (Qv _ _ _) (Qf fun _=>Ev.bind (Qv _ _ _) (Qf fun _=>Ev.bind (Qv _ _ _) (Qa _)))))
theorem ends_eq{a b a' b':Int}:(({from_:=a,to_:=b}:typing_ends)={from_:=a',to_:=b'})↔a=a'/\b=b':=by simp
theorem Qd6(c:Course)(w:CourseOk c)(d:Distance)(h1:d.Route.length<=1048576)(h2:∀x∈d.Route,Part.wf x)(h3:d.Cutoffs.length<=1048576):Ev (fun n=>F_bk n c d) (distS ((c.Mats.length:Int)-1) d):=by
 unfold F_bk
 have step:∀(i:Nat) (x:Cutoff),At d.Cutoffs i x->Ev (fun n=>F_fw n c d (i:Int)) (bif cutS ((c.Mats.length:Int)-1) x then .cont ((i+1:Nat):Int)else .done (.done false)):=by
  intro i x ha
  unfold F_fw
  simp only[ha.lt,cond_true,ha.ix,Option.bind_some,ha.nx]
  have:Ev (fun n=>((F_i n c x.Mat).bind fun r42=>(bif (!r42)then some true else(bif decide (x.Lap<1)then some true else(F_b n x.Limit 0 1099511627776).bind fun r45=>some (!r45))):Option Bool)) (!cutS ((c.Mats.length:Int)-1) x):=by
   refine Ev.bind (Qd8 c w _) (Ev.eq (Qp fun _=>Qp fun _=>Ev.bind (Jc _ _ _) (Qa _)) ?_)
   unfold cutS
   by_cases h:x.Lap<1
   ·have:¬1<=x.Lap:=by omega
    simp[h,this]
   ·have:1<=x.Lap:=by omega
    simp[h,this]
  refine Ev.bind this ?_
  cases cutS ((c.Mats.length:Int)-1) x<;>exact Qa _
 refine Ev.bind (YI d.Cutoffs (fun x=> !cutS ((c.Mats.length:Int)-1) x) (fun i=>(i:Int)) (Ctl.done false) (Ctl.cont ()) (by omega) rfl (fun i x ha hq=>?_) (fun i x ha hq=>?_) ?_) ?_
 ·refine(step i x ha).eq ?_
  have:cutS ((c.Mats.length:Int)-1) x=true:=by simpa using hq
  rw[this];rfl
 ·refine(step i x ha).eq ?_
  have:cutS ((c.Mats.length:Int)-1) x=false:=by simpa using hq
  rw[this];rfl
 ·unfold F_fw
  simp only[Qaj,cond_false]
  exact Qa _
 ·have e:d.Cutoffs.any (fun x=> !cutS ((c.Mats.length:Int)-1) x)= !d.Cutoffs.all (cutS ((c.Mats.length:Int)-1)):=by rw[List.not_all_eq_any_not]
  rw[e]
  unfold distS
  have hx:inR (-1) ((c.Mats.length:Int)-1) d.Extra=((d.Extra== -1)||inR 0 ((c.Mats.length:Int)-1) d.Extra):=by
   unfold inR
   rw[Bool.eq_iff_iff]
   simp
   omega
  cases d.Cutoffs.all (cutS ((c.Mats.length:Int)-1))with
  |false=>
   simp only[Bool.not_false,cond_true,Bool.and_false]
   exact Qa _
  |true=>
   simp only[Bool.not_true,cond_false,Bool.and_true]
   refine Ev.bind (v:=_) ?_ (Qa _)
   refine Ev.bind (Jc _ _ _) ((Qf fun _=>Ev.bind (Qh7 c w _ d.Route (Nat.le_refl _) h1 h2) (Qf fun _=>Qp fun _=>Ev.bind (Qd8 c w _) (Qa _))).eq ?_)
   rw[hx,Bool.and_comm (partsS _ _)]
theorem Yx{α B:Type}{step:Nat->Int->Option (Ctl Int B)}(l:List α)(ok:α->Bool)(bx b:B)(hl:l.length<=4611686018427387904)
  (hs:∀i x,At l i x->Ev (fun n=>step n (i:Int)) (bif ok x then .cont ((i+1:Nat):Int)else .done bx))(hd:Ev (fun n=>step n (l.length:Int)) (.done b)):
  Ev (fun n=>Go.Sw.iter (step n) n 0) (bif l.all ok then b else bx):=by
 have e:(bif l.all ok then b else bx)=bif l.any (fun x=> !ok x)then bx else b:=by
  rw[<- List.not_all_eq_any_not]
  cases l.all ok<;>rfl
 rw[e]
 refine YI l (fun x=> !ok x) (fun i=>(i:Int)) bx b hl rfl (fun i x ha hq=>?_) (fun i x ha hq=>?_) hd
 ·have h:ok x=true:=by simpa using hq
  have:=hs i x ha
  rwa [h]at this
 ·have h:ok x=false:=by simpa using hq
  have:=hs i x ha
  rwa [h]at this
theorem Qfm(c:Course)(w:CourseOk c)(q:PartsOk c):Ev (fun n=>F_cn n c) (numbersS c):=by
 unfold F_cn numbersS
 have h1:Ev (fun n=>iter (F_gh n c) n 0) (bif c.Mats.all (fun m=>inR 1 3 m.Kind)then Ctl.cont ()else Ctl.done false):=by
  refine Yx c.Mats _ _ _ (by have:=w.mats;omega) (fun i x ha=>?_) ?_
  ·unfold F_gh
   simp only[ha.lt,cond_true,ha.ix,Option.bind_some,ha.nx]
   refine Ev.bind (Jc _ _ _) ?_
   cases inR 1 3 x.Kind<;>exact Qa _
  ·unfold F_gh
   simp only[Qaj,cond_false]
   exact Qa _
 have h2:Ev (fun n=>iter (F_bt n c) n 0) (bif c.Legs.all (legS ((c.Mats.length:Int)-1))&&decide ((c.Legs.map legKey).Nodup)then Ctl.cont ()else Ctl.done false):=by
  have first:∀x:Leg,Ev (fun n=>((F_i n c x.From).bind fun r115=>(bif (!r115)then some true else(F_i n c x.To).bind fun r117=>(bif (!r117)then some true else(bif decide (x.Min<0)then some true else(bif decide (x.Max<x.Min)then some true else some (decide (68719476736<x.Max)))))):Option Bool)) (!legS ((c.Mats.length:Int)-1) x):=by
   intro x
   refine Ev.bind (Qd8 c w _) (Ev.eq (Qp fun _=>Ev.bind (Qd8 c w _) (Qp fun _=>Qp fun _=>Qp fun _=>Qa _)) ?_)
   unfold legS inR
   rw[Bool.eq_iff_iff]
   simp
   omega
  have inner:∀(i:Nat) (x:Leg),At c.Legs i x->Ev (fun n=>iter (F_ev n c (i:Int) x) n 0) (bif ((c.Legs.take i).map legKey).contains (legKey x)then Ctl.done (Ctl.done (Ctl.done false))else Ctl.cont ()):=by
   intro i x ha
   have hlt:=ha.lt'
   refine Qgz c.Legs i legKey (legKey x) _ _ (by have:=w.legs;omega) (by omega) (fun j y hj hy hk=>?_) (fun j y hj hy hk=>?_) ?_
   ·unfold F_ev
    rw[QO (show(j:Int)<(i:Int)by omega)]
    simp only[cond_true,hy.ix,Option.bind_some,hy.nx]
    have h:¬(y.From=x.From/\y.To=x.To):=by simpa[legKey]using hk
    refine Ev.bind (Qf fun _=>Qa _) ?_
    have e:((y.From==x.From)&&(y.To==x.To))=false:=by
     rw[Bool.eq_false_iff];intro z;exact h (by simpa using z)
    rw[e]
    exact Qa _
   ·unfold F_ev
    rw[QO (show(j:Int)<(i:Int)by omega)]
    simp only[cond_true,hy.ix,Option.bind_some,hy.nx]
    have h:(y.From=x.From/\y.To=x.To):=by simpa[legKey]using hk
    refine Ev.bind (Qf fun _=>Qa _) ?_
    have e:((y.From==x.From)&&(y.To==x.To))=true:=by simpa using h
    rw[e]
    exact Qa _
   ·unfold F_ev
    rw[QS (show¬(i:Int)<(i:Int)by omega)]
    exact Qa _
  refine Qj8 c.Legs (legS ((c.Mats.length:Int)-1)) legKey _ _ (by have:=w.legs;omega) (fun i x ha hok hk=>?_) (fun i x ha hok=>?_) (fun i x ha hok hk=>?_) ?_
  ·unfold F_bt
   simp only[ha.lt,cond_true,ha.ix,Option.bind_some,ha.nx]
   have hf:=first x;rw[hok]at hf
   have hi:=inner i x ha;rw[hk]at hi
   exact Ev.bind hf (Yi (Ev.bind hi (Qa _)))
  ·unfold F_bt
   simp only[ha.lt,cond_true,ha.ix,Option.bind_some,ha.nx]
   have hf:=first x;rw[hok]at hf
   exact Ev.bind hf (Qa _)
  ·unfold F_bt
   simp only[ha.lt,cond_true,ha.ix,Option.bind_some,ha.nx]
   have hf:=first x;rw[hok]at hf
   have hi:=inner i x ha;rw[hk]at hi
   exact Ev.bind hf (Yi (Ev.bind hi (Qa _)))
  ·unfold F_bt
   simp only[Qaj,cond_false]
   exact Qa _
 have h4:Ev (fun n=>iter (F_ft n c) n 0) (bif c.Distances.all (distS ((c.Mats.length:Int)-1))then Ctl.cont ()else Ctl.done false):=by
  refine Yx c.Distances _ _ _ (by have:=w.dist;omega) (fun i x ha=>?_) ?_
  ·unfold F_ft
   simp only[ha.lt,cond_true,ha.ix,Option.bind_some,ha.nx]
   refine Ev.bind (Qd6 c w x (q.len x ha.mem) (q.wf x ha.mem) (w.cut x ha.mem)) ?_
   cases distS ((c.Mats.length:Int)-1) x<;>exact Qa _
  ·unfold F_ft
   simp only[Qaj,cond_false]
   exact Qa _
 have h5:Ev (fun n=>iter (F_gi n c) n 0) (bif c.Waves.all (fun w=>inR 0 1099511627776 w.Gun)then Ctl.cont ()else Ctl.done false):=by
  refine Yx c.Waves _ _ _ (by have:=w.wave;omega) (fun i x ha=>?_) ?_
  ·unfold F_gi
   simp only[ha.lt,cond_true,ha.ix,Option.bind_some,ha.nx]
   refine Ev.bind (Jc _ _ _) ?_
   cases inR 0 1099511627776 x.Gun<;>exact Qa _
  ·unfold F_gi
   simp only[Qaj,cond_false]
   exact Qa _
 have h6:Ev (fun n=>iter (F_gf n c) n 0) (bif c.Offences.all offS then Ctl.cont ()else Ctl.done false):=by
  refine Yx c.Offences _ _ _ (by have:=w.off;omega) (fun i x ha=>?_) ?_
  ·unfold F_gf
   simp only[ha.lt,cond_true,ha.ix,Option.bind_some,ha.nx]
   refine Ev.bind (Ev.bind (Jc _ _ _) (Qf fun _=>Qf fun _=>Qa _)) ?_
   refine Ev.bind (Qf fun _=>Ev.bind (Jc _ _ _) (Qf fun _=>Qa _)) ?_
   refine Ev.bind (Qf fun _=>Qf fun _=>Qa _) ?_
   refine Ev.bind (Qf fun _=>Qf fun _=>Qa _) ?_
   have e:offS x= !(!(inR 0 68719476736 x.Time&&((x.Laps==0)&& !x.Out))&&(!((x.Time==0)&&(inR 1 64 x.Laps&& !x.Out))&& !((x.Time==0)&&((x.Laps==0)&&x.Out)))):=by
    unfold offS inR
    cases x.Out with
    |true=>
     rw[Bool.eq_iff_iff];simp
    |false=>
     by_cases h:x.Laps=0
     ·rw[Bool.eq_iff_iff];simp[h]
     ·rw[Bool.eq_iff_iff];simp[h]
   rw[e]
   generalize(!(inR 0 68719476736 x.Time&&((x.Laps==0)&& !x.Out))&&(!((x.Time==0)&&(inR 1 64 x.Laps&& !x.Out))&& !((x.Time==0)&&((x.Laps==0)&&x.Out))))=b
   cases b<;>exact Qa _
  ·unfold F_gf
   simp only[Qaj,cond_false]
   exact Qa _
 have h7:Ev (fun n=>iter (F_fv n c) n 0) (bif c.Categories.all catS then Ctl.cont ()else Ctl.done false):=by
  refine Yx c.Categories _ _ _ (by have:=w.cat;omega) (fun i x ha=>?_) ?_
  ·unfold F_fv
   simp only[ha.lt,cond_true,ha.ix,Option.bind_some,ha.nx]
   refine Ev.bind (Qp fun _=>Qp fun _=>Qa _) ?_
   have e:(decide (x.From<0)||(decide (x.To<x.From)||decide (120<x.To)))= !catS x:=by
    unfold catS inR
    rw[Bool.eq_iff_iff]
    simp
    omega
   rw[e]
   cases catS x<;>exact Qa _
  ·unfold F_fv
   simp only[Qaj,cond_false]
   exact Qa _
 have h8:Ev (fun n=>iter (F_ce n c) n 0) (bif c.Prizes.all (prizeS c)&&decide ((c.Prizes.map prizeKey).Nodup)then Ctl.cont ()else Ctl.done false):=by
  have first:∀x:Prize,Ev (fun n=>((F_b n x.Distance 0 (IntKind.i64.wrap ((c.Distances.length:Int)-1))).bind fun r428=>(bif (!r428)then some true else(F_b n x.Category (-1) (IntKind.i64.wrap ((c.Categories.length:Int)-1))).bind fun r430=>(bif (!r430)then some true else(F_b n x.Rank 1 4000).bind fun r432=>(bif (!r432)then some true else(F_b n x.Amount 1 1125899906842624).bind fun r434=>some (!r434)))):Option Bool)) (!prizeS c x):=by
   intro x
   rw[QaF w.dist,QaF w.cat]
   refine Ev.bind (Jc _ _ _) (Ev.eq (Qp fun _=>Ev.bind (Jc _ _ _) (Qp fun _=>Ev.bind (Jc _ _ _) (Qp fun _=>Ev.bind (Jc _ _ _) (Qa _)))) ?_)
   unfold prizeS
   simp only[Bool.not_and]
  have inner:∀(i:Nat) (x:Prize),At c.Prizes i x->Ev (fun n=>iter (F_dn n c (i:Int) x) n 0) (bif ((c.Prizes.take i).map prizeKey).contains (prizeKey x)then Ctl.done (Ctl.done (Ctl.done false))else Ctl.cont ()):=by
   intro i x ha
   have hlt:=ha.lt'
   refine Qgz c.Prizes i prizeKey (prizeKey x) _ _ (by have:=w.prize;omega) (by omega) (fun j y hj hy hk=>?_) (fun j y hj hy hk=>?_) ?_
   ·unfold F_dn
    rw[QO (show(j:Int)<(i:Int)by omega)]
    simp only[cond_true,hy.ix,Option.bind_some,hy.nx]
    have h:¬(y.Distance=x.Distance/\y.Category=x.Category/\y.Rank=x.Rank):=by simpa[prizeKey]using hk
    refine Ev.bind (Qf fun _=>Qf fun _=>Qa _) ?_
    have e:((y.Distance==x.Distance)&&((y.Category==x.Category)&&(y.Rank==x.Rank)))=false:=by
     rw[Bool.eq_false_iff];intro z;exact h (by simpa using z)
    rw[e]
    exact Qa _
   ·unfold F_dn
    rw[QO (show(j:Int)<(i:Int)by omega)]
    simp only[cond_true,hy.ix,Option.bind_some,hy.nx]
    have h:(y.Distance=x.Distance/\y.Category=x.Category/\y.Rank=x.Rank):=by simpa[prizeKey]using hk
    refine Ev.bind (Qf fun _=>Qf fun _=>Qa _) ?_
    have e:((y.Distance==x.Distance)&&((y.Category==x.Category)&&(y.Rank==x.Rank)))=true:=by simpa using h
    rw[e]
    exact Qa _
   ·unfold F_dn
    rw[QS (show¬(i:Int)<(i:Int)by omega)]
    exact Qa _
  refine Qj8 c.Prizes (prizeS c) prizeKey _ _ (by have:=w.prize;omega) (fun i x ha hok hk=>?_) (fun i x ha hok=>?_) (fun i x ha hok hk=>?_) ?_
  ·unfold F_ce
   simp only[ha.lt,cond_true,ha.ix,Option.bind_some,ha.nx]
   have hf:=first x;rw[hok]at hf
   have hi:=inner i x ha;rw[hk]at hi
   exact Ev.bind hf (Yi (Ev.bind hi (Qa _)))
  ·unfold F_ce
   simp only[ha.lt,cond_true,ha.ix,Option.bind_some,ha.nx]
   have hf:=first x;rw[hok]at hf
   exact Ev.bind hf (Qa _)
  ·unfold F_ce
   simp only[ha.lt,cond_true,ha.ix,Option.bind_some,ha.nx]
   have hf:=first x;rw[hok]at hf
   have hi:=inner i x ha;rw[hk]at hi
   exact Ev.bind hf (Yi (Ev.bind hi (Qa _)))
  ·unfold F_ce
   simp only[Qaj,cond_false]
   exact Qa _
 refine Ev.bind h1 ?_
 cases c.Mats.all (fun m=>inR 1 3 m.Kind)with
 |false=>exact Qa _
 |true=>
 refine Ev.bind h2 ?_
 simp only[Bool.true_and]
 rw[<- Bool.and_assoc]
 cases(c.Legs.all (legS ((c.Mats.length:Int)-1))&&decide ((c.Legs.map legKey).Nodup))with
 |false=>exact Qa _
 |true=>
 refine Ev.bind h4 ?_
 simp only[Bool.true_and]
 cases c.Distances.all (distS ((c.Mats.length:Int)-1))with
 |false=>exact Qa _
 |true=>
 refine Ev.bind h5 ?_
 simp only[Bool.true_and]
 cases c.Waves.all (fun w=>inR 0 1099511627776 w.Gun)with
 |false=>exact Qa _
 |true=>
 refine Ev.bind h6 ?_
 simp only[Bool.true_and]
 cases c.Offences.all offS with
 |false=>exact Qa _
 |true=>
 refine Ev.bind h7 ?_
 simp only[Bool.true_and]
 cases c.Categories.all catS with
 |false=>exact Qa _
 |true=>
 refine Ev.bind h8 ?_
 simp only[Bool.true_and]
 rw[<- Bool.and_assoc]
 cases(c.Prizes.all (prizeS c)&&decide ((c.Prizes.map prizeKey).Nodup))with
 |false=>exact Qa _
 |true=>
 simp only[Bool.true_and]
 refine Ev.bind (v:=lastS c) ?_ (Qa _)
 refine Ev.bind (Jc _ _ _) ((Qf fun _=>Ev.bind (Jc _ _ _) (Qf fun _=>Ev.bind (Jc _ _ _) (Qf fun _=>Ev.bind (Jc _ _ _) (Qf fun _=>Ev.bind (Jc _ _ _) (Qf fun _=>Ev.bind (Jc _ _ _) (Qf fun _=>Ev.bind (Jc _ _ _) (Qa _))))))).eq ?_)
 unfold lastS
 simp only[Bool.and_assoc]
mutual
def cN:Cond->Nat
 |⟨_,_,_,ps⟩=>1+cNs ps
def cNs:List Cond->Nat
 |[]=>0
 |c::r=>cN c+cNs r
end
theorem Qbx(c:Cond):cN c=1+cNs c.Parts:=by cases c;rfl
mutual
def cD:Nat->Cond->Bool
 |d,⟨_,_,_,ps⟩=>cDs d ps
def cDs:Nat->List Cond->Bool
 |_,[]=>true
 |d,c::r=>decide (d<=16)&&(cD (d+1) c&&cDs d r)
end
theorem QhI(d:Nat)(c:Cond):cD d c=cDs d c.Parts:=by cases c;rfl
def zeroC(c:Cond):Bool:=(c.Kind==0)&&((c.Var==0)&&((c.N==0)&&((c.Parts.length:Int)==0)))
mutual
def sNp:Step->Nat
 |⟨_,_,_,t,e⟩=>1+sNs t+sNs e
def sNs:List Step->Nat
 |[]=>0
 |s::r=>sNp s+sNs r
end
theorem QeF(s:Step):sNp s=1+sNs s.Then+sNs s.Else:=by cases s;rfl
mutual
def sC:Step->Nat
 |⟨_,_,c,t,e⟩=>(bif zeroC c then 0 else cN c)+sCs t+sCs e
def sCs:List Step->Nat
 |[]=>0
 |s::r=>sC s+sCs r
end
theorem QdC(s:Step):sC s=(bif zeroC s.Cond then 0 else cN s.Cond)+sCs s.Then+sCs s.Else:=by cases s;rfl
mutual
def sDp:Nat->Step->Bool
 |d,⟨_,_,c,t,e⟩=>(zeroC c||cD 1 c)&&(sDs d t&&sDs d e)
def sDs:Nat->List Step->Bool
 |_,[]=>true
 |d,s::r=>decide (d<=16)&&(sDp (d+1) s&&sDs d r)
end
theorem QfP(d:Nat)(s:Step):sDp d s=((zeroC s.Cond||cD 1 s.Cond)&&(sDs d s.Then&&sDs d s.Else)):=by cases s;rfl
mutual
def sZ:Step->Nat
 |⟨_,_,c,t,e⟩=>2+cN c+sZs t+sZs e
def sZs:List Step->Nat
 |[]=>0
 |s::r=>sZ s+sZs r
end
theorem QeE(s:Step):sZ s=2+cN s.Cond+sZs s.Then+sZs s.Else:=by cases s;rfl
def fS:typing_form->Nat
 |.ctyping_step x=>sNp x.Step
 |.ctyping_cond _=>0
def fC:typing_form->Nat
 |.ctyping_step x=>sC x.Step
 |.ctyping_cond x=>cN x.Cond
def fD(d:Nat):typing_form->Bool
 |.ctyping_step x=>sDp d x.Step
 |.ctyping_cond x=>cD d x.Cond
def fZ:typing_form->Nat
 |.ctyping_step x=>sZ x.Step
 |.ctyping_cond x=>cN x.Cond
def fSs(l:List typing_form):Nat:=(l.map fS).sum
def fCs(l:List typing_form):Nat:=(l.map fC).sum
def fZs(l:List typing_form):Nat:=(l.map fZ).sum
def fwf:typing_form->Prop
 |.ctyping_step x=>Step.wf x.Step
 |.ctyping_cond x=>Cond.wf x.Cond
def ofStep(s:Step):typing_form:=.ctyping_step {Step:=s}
def ofCond(c:Cond):typing_form:=.ctyping_cond {Cond:=c}
theorem Qa0:∀l:List Step,fSs (l.map ofStep)=sNs l
 |[]=>rfl
 |s::r=>by
  have:=Qa0 r
  simp only[fSs,List.map_cons,List.sum_cons]at this⊢
  rw[this];rfl
theorem Qa1:∀l:List Step,fCs (l.map ofStep)=sCs l
 |[]=>rfl
 |s::r=>by
  have:=Qa1 r
  simp only[fCs,List.map_cons,List.sum_cons]at this⊢
  rw[this];rfl
theorem Qbu:∀l:List Step,fZs (l.map ofStep)=sZs l
 |[]=>rfl
 |s::r=>by
  have:=Qbu r
  simp only[fZs,List.map_cons,List.sum_cons]at this⊢
  rw[this];rfl
theorem QdY:∀l:List Cond,fSs (l.map ofCond)=0
 |[]=>rfl
 |s::r=>by
  have:=QdY r
  simp only[fSs,List.map_cons,List.sum_cons]at this⊢
  rw[this];rfl
theorem Qd0:∀l:List Cond,fCs (l.map ofCond)=cNs l
 |[]=>rfl
 |s::r=>by
  have:=Qd0 r
  simp only[fCs,List.map_cons,List.sum_cons]at this⊢
  rw[this];rfl
theorem QdW:∀l:List Cond,fZs (l.map ofCond)=cNs l
 |[]=>rfl
 |s::r=>by
  have:=QdW r
  simp only[fZs,List.map_cons,List.sum_cons]at this⊢
  rw[this];rfl
theorem Qcl(d:Nat):∀l:List Step,sDs d l=((l.map ofStep).isEmpty||(decide (d<=16)&&(l.map ofStep).all (fD (d+1))))
 |[]=>rfl
 |s::r=>by
  rw[sDs,Qcl d r]
  simp only[List.map_cons,List.isEmpty_cons,Bool.false_or,List.all_cons]
  rw[show fD (d+1) (ofStep s)=sDp (d+1) s from rfl]
  cases r with
  |nil=>simp
  |cons x r=>
   simp only[List.map_cons,List.isEmpty_cons,Bool.false_or,List.all_cons]
   cases decide (d<=16)<;>simp
theorem Qgc(d:Nat):∀l:List Cond,cDs d l=((l.map ofCond).isEmpty||(decide (d<=16)&&(l.map ofCond).all (fD (d+1))))
 |[]=>rfl
 |s::r=>by
  rw[cDs,Qgc d r]
  simp only[List.map_cons,List.isEmpty_cons,Bool.false_or,List.all_cons]
  rw[show fD (d+1) (ofCond s)=cD (d+1) s from rfl]
  cases r with
  |nil=>simp
  |cons x r=>
   simp only[List.map_cons,List.isEmpty_cons,Bool.false_or,List.all_cons]
   cases decide (d<=16)<;>simp
theorem YT{c:Cond}(h:Cond.wf c):c.Parts.length<=1048576/\ ∀x∈c.Parts,Cond.wf x:=by
 cases c
 simp only[Cond.wf,QcH]at h
 exact h.2.2.2.1
theorem YR{s:Step}(h:Step.wf s):Cond.wf s.Cond/\(s.Then.length<=1048576/\ ∀x∈s.Then,Step.wf x)/\(s.Else.length<=1048576/\ ∀x∈s.Else,Step.wf x):=by
 cases s
 simp only[Step.wf,Qct]at h
 exact⟨h.2.2.1,h.2.2.2.1,h.2.2.2.2.1⟩
theorem QeQ(n:Nat)(c:Cond):F_ae n {Cond:=c}=some (zeroC c):=by
 unfold F_ae zeroC
 cases(c.Kind==0)<;>cases(c.Var==0)<;>cases(c.N==0)<;>rfl
theorem Qd4(n:Nat)(c:Cond):F_aj n c=some (zeroC c):=by
 unfold F_aj zeroC
 cases(c.Kind==0)<;>cases(c.Var==0)<;>cases(c.N==0)<;>rfl
theorem Qd3(l:List Step)(hl:l.length<=140737488):Ev (fun n=>F_y n l) (l.map ofStep):=by
 unfold F_y
 exact Ev.bind (Qaf l ofStep hl) (Qa _)
theorem Qjv(l:List Cond)(hl:l.length<=140737488):Ev (fun n=>F_bx n l) (l.map ofCond):=by
 unfold F_bx
 exact Ev.bind (Qaf l ofCond hl) (Qa _)
def stepParts(s:Step):List typing_form:=s.Then.map ofStep++s.Else.map ofStep
theorem Qbf(s:Step)(h:Step.wf s):Ev (fun n=>F_w n {Step:=s}) (stepParts s):=by
 obtain⟨_,⟨h1,_⟩,⟨h2,_⟩⟩:=YR h
 unfold F_w stepParts
 refine Ev.bind (Qd3 s.Then (by omega)) (Ev.bind (Qd3 s.Else (by omega)) (Je (Qcq _ _ (by simp;omega)) (Qa _)))
theorem Qcm(c:Cond)(h:Cond.wf c):Ev (fun n=>F_t n {Cond:=c}) (c.Parts.map ofCond):=by
 obtain⟨h1,_⟩:=YT h
 unfold F_t
 exact Ev.bind (Qjv c.Parts (by omega)) (Qa _)
def okL(l:List typing_form)(d:Nat)(st co:Int):Bool:=l.isEmpty||(decide (d<=16)&&(l.all (fD (d+1))&&(decide (st+fSs l<=64)&&decide (co+fCs l<=256))))
def okR(l:List typing_form)(d:Nat)(st co:Int):Bool:=l.isEmpty||(l.all (fD (d+1))&&(decide (st+fSs l<=64)&&decide (co+fCs l<=256)))
def okF(f:typing_form)(d:Nat)(st co:Int):Bool:=fD (d+1) f&&(decide (st+fS f<=64)&&decide (co+fC f<=256))
theorem Qgb(f:typing_form)(l:List typing_form):fSs (f::l)=fS f+fSs l:=rfl
theorem Qgd(f:typing_form)(l:List typing_form):fCs (f::l)=fC f+fCs l:=rfl
theorem Qga(f:typing_form)(l:List typing_form):fZs (f::l)=fZ f+fZs l:=rfl
theorem QdX(l m:List typing_form):fSs (l++m)=fSs l+fSs m:=by simp[fSs]
theorem QdZ(l m:List typing_form):fCs (l++m)=fCs l+fCs m:=by simp[fCs]
theorem QdV(l m:List typing_form):fZs (l++m)=fZs l+fZs m:=by simp[fZs]
theorem Qi6(f:typing_form)(r:List typing_form)(d:Nat)(st co:Int):okR (f::r) d st co=(okF f d st co&&okR r d (st+fS f) (co+fC f)):=by
 unfold okR okF
 rw[Qgb,Qgd]
 cases r with
 |nil=>simp[fSs,fCs]
 |cons g r=>
  rw[Bool.eq_iff_iff]
  simp only[List.isEmpty_cons,Bool.false_or,List.all_cons,Bool.and_eq_true,decide_eq_true_eq]
  rw[show((fS f+fSs (g::r):Nat):Int)=(fS f:Int)+(fSs (g::r):Int)by omega,show((fC f+fCs (g::r):Nat):Int)=(fC f:Int)+(fCs (g::r):Int)by omega]
  constructor
  ·rintro⟨⟨h1,h2⟩,h3,h4⟩
   exact⟨⟨h1,by omega,by omega⟩,h2,by omega,by omega⟩
  ·rintro⟨⟨h1,_,_⟩,h2,h3,h4⟩
   exact⟨⟨h1,h2⟩,by omega,by omega⟩
theorem Qfc(l:List typing_form)(d:Nat)(st co:Int)(h1:st<=64)(h2:co<=256):okL l d st co=true↔(l.isEmpty||(decide (d<=16)&&l.all (fD (d+1))))=true/\st+fSs l<=64/\co+fCs l<=256:=by
 unfold okL
 cases l with
 |nil=>simp[fSs,fCs,h1,h2]
 |cons f r=>
  simp only[List.isEmpty_cons,Bool.false_or,Bool.and_eq_true,decide_eq_true_eq]
  constructor
  ·rintro⟨a,b,c,e⟩;exact⟨⟨a,b⟩,c,e⟩
  ·rintro⟨⟨a,b⟩,c,e⟩;exact⟨a,b,c,e⟩
theorem QdA(s:Step)(d:Nat):((stepParts s).isEmpty||(decide (d<=16)&&(stepParts s).all (fD (d+1))))=(sDs d s.Then&&sDs d s.Else):=by
 rw[Qcl,Qcl]
 unfold stepParts
 rw[List.all_append]
 cases h1:s.Then<;>cases h2:s.Else<;>simp<;>(cases decide (d<=16)<;>simp)
def Cnt(R:Nat->List typing_form->Int->typing_count->Option (typing_count×Bool))(l:List typing_form)(d:Nat)(st co:Int):Prop:=
 ∃c':typing_count,Ev (fun n=>R n l (d:Int) {steps:=st,conds:=co}) (c',okL l d st co)/\(okL l d st co=true->c'={steps:=st+fSs l,conds:=co+fCs l})
theorem Qg5{R:Nat->List typing_form->Int->typing_count->Option (typing_count×Bool)}{l:List typing_form}{d:Nat}(hd:d<=16){i:Nat}{f:typing_form}(ha:At l i f)(hw:fwf f)
  (ih:∀l' d' st co,fZs l'<fZ f->l'.length<=2097152->(∀f∈l',fwf f)->d'<=17->0<=st->st<=66->(st<=65\/ ∀f∈l',∃c,f=ofCond c)->0<=co->co<=256->Cnt R l' d' st co){st co:Int}(h0:0<=st)(h1':st<=66)(h1'':st<=65\/ ∃c,f=ofCond c)(h2:0<=co)(h3:co<=256):
  ∃c':typing_count,Ev (fun n=>F_dw n l (d:Int) (R n) ({steps:=st,conds:=co},(i:Int))) (bif okF f d st co then .cont (c',((i+1:Nat):Int))else .done (.done (c',false)))/\(okF f d st co=true->c'={steps:=st+fS f,conds:=co+fC f}):=by
 unfold F_dw
 simp only[ha.lt,cond_true,ha.ix,Option.bind_some,ha.nx]
 have ed:IntKind.i64.wrap ((d:Int)+1)=((d+1:Nat):Int):=YJ (by omega)
 cases f with
 |ctyping_step x=>
  obtain⟨s⟩:=x
  have h1:st<=65:=by
   rcases h1'' with h|⟨c,h⟩
   ·exact h
   ·cases h
  have hw':Step.wf s:=hw
  obtain⟨wc,⟨wt1,wt2⟩,⟨we1,we2⟩⟩:=YR hw'
  have e1:IntKind.i64.wrap (st+1)=st+1:=Ya (by omega) (by omega)
  simp only[typing_form.elim,QeQ,Option.bind_some,e1]
  have hc:∃c2:typing_count,Ev (fun n=>((bif (!zeroC s.Cond)then(R n [typing_form.ctyping_cond {Cond:=s.Cond}] 0 {steps:=st+1,conds:=co}).bind fun r100=>some (r100.1,(!r100.2))else some ({steps:=st+1,conds:=co},false)):Option (typing_count×Bool))) (c2, !(zeroC s.Cond||(cD 1 s.Cond&&(decide (st+1<=64)&&decide (co+cN s.Cond<=256)))))/\
    ((zeroC s.Cond||(cD 1 s.Cond&&(decide (st+1<=64)&&decide (co+cN s.Cond<=256))))=true->c2={steps:=st+1,conds:=co+((bif zeroC s.Cond then 0 else cN s.Cond:Nat):Int)}):=by
   cases hz:zeroC s.Cond with
   |true=>
    refine⟨{steps:=st+1,conds:=co},?_,fun _=>?_⟩
    ·exact Qa _
    ·simp
   |false=>
    obtain⟨c2,q1,q2⟩:=ih [ofCond s.Cond] 0 (st+1) co (by simp only[fZs,List.map_cons,List.map_nil,List.sum_cons,List.sum_nil];show cN s.Cond+0<sZ s;rw[QeE];omega) (by simp) (by intro g hg;simp only[List.mem_singleton]at hg;subst hg;exact wc) (by omega) (by omega) (by omega) (.inr (by intro g hg;simp only[List.mem_singleton]at hg;exact⟨_,hg⟩)) h2 h3
    have ek:okL [ofCond s.Cond] 0 (st+1) co=(cD 1 s.Cond&&(decide (st+1<=64)&&decide (co+cN s.Cond<=256))):=by
     unfold okL
     simp only[List.isEmpty_cons,Bool.false_or,List.all_cons,List.all_nil,Bool.and_true,fSs,fCs,List.map_cons,List.map_nil,List.sum_cons,List.sum_nil]
     rw[show fD (0+1) (ofCond s.Cond)=cD 1 s.Cond from rfl,show fS (ofCond s.Cond)=0 from rfl,show fC (ofCond s.Cond)=cN s.Cond from rfl]
     simp
    rw[ek]at q1 q2
    refine⟨c2,Ev.bind q1 (Qa _),fun h=>?_⟩
    rw[q2 h]
    simp[fSs,fCs,show fS (ofCond s.Cond)=0 from rfl,show fC (ofCond s.Cond)=cN s.Cond from rfl]
  obtain⟨c2,q1,q2⟩:=hc
  generalize hb:(zeroC s.Cond||(cD 1 s.Cond&&(decide (st+1<=64)&&decide (co+cN s.Cond<=256))))=b at q1 q2
  have hF:okF (typing_form.ctyping_step {Step:=s}) d st co=(sDp (d+1) s&&(decide (st+sNp s<=64)&&decide (co+sC s<=256))):=rfl
  rw[hF]
  cases b with
  |false=>
   have:(sDp (d+1) s&&(decide (st+sNp s<=64)&&decide (co+sC s<=256)))=false:=by
    rw[Bool.eq_false_iff]
    intro hh
    simp only[Bool.and_eq_true,decide_eq_true_eq,QfP,QeF,QdC]at hh
    obtain⟨⟨z1,_⟩,z2,z3⟩:=hh
    cases hz:zeroC s.Cond with
    |true=>rw[hz]at hb;cases hb
    |false=>
     rw[hz]at hb z1 z3
     simp only[Bool.false_or]at hb z1
     rw[z1]at hb
     simp only[cond_false]at z3
     rw[QO (show st+1<=64 by omega),QO (show co+(cN s.Cond:Int)<=256 by omega)]at hb
     cases hb
   rw[this]
   exact⟨c2,Ev.bind q1 (Qa _),fun h=>by cases h⟩
  |true=>
   obtain rfl:=q2 rfl
   by_cases g1:64<st+1
   ·have:(sDp (d+1) s&&(decide (st+sNp s<=64)&&decide (co+sC s<=256)))=false:=by
     rw[QS (show¬st+(sNp s:Int)<=64 by rw[QeF];omega)]
     simp
    rw[this]
    refine⟨{steps:=st+1,conds:=co+((bif zeroC s.Cond then 0 else cN s.Cond:Nat):Int)},Ev.bind q1 ?_,fun h=>by cases h⟩
    simp only[Bool.not_true,cond_false]
    refine Ev.bind (v:=(_,true)) ?_ (Qa _)
    rw[QO g1]
    exact Qa _
   by_cases g2:256<co+((bif zeroC s.Cond then 0 else cN s.Cond:Nat):Int)
   ·have:(sDp (d+1) s&&(decide (st+sNp s<=64)&&decide (co+sC s<=256)))=false:=by
     rw[QS (show¬co+(sC s:Int)<=256 by rw[QdC];omega)]
     simp
    rw[this]
    refine⟨{steps:=st+1,conds:=co+((bif zeroC s.Cond then 0 else cN s.Cond:Nat):Int)},Ev.bind q1 ?_,fun h=>by cases h⟩
    simp only[Bool.not_true,cond_false]
    refine Ev.bind (v:=(_,true)) ?_ (Qa _)
    rw[QS g1,QO g2]
    exact Qa _
   obtain⟨c3,p1,p2⟩:=ih (stepParts s) (d+1) (st+1) (co+((bif zeroC s.Cond then 0 else cN s.Cond:Nat):Int)) (by
     unfold stepParts
     rw[QdV,Qbu,Qbu]
     show _<sZ s
     rw[QeE];omega) (by unfold stepParts;simp;omega) (by
     intro g hg
     unfold stepParts at hg
     rcases List.mem_append.1 hg with hg|hg
     ·obtain⟨y,hy,rfl⟩:=List.mem_map.1 hg;exact wt2 y hy
     ·obtain⟨y,hy,rfl⟩:=List.mem_map.1 hg;exact we2 y hy) (by omega) (by omega) (by omega) (.inl (by omega)) (by omega) (by omega)
   have eL:okL (stepParts s) (d+1) (st+1) (co+((bif zeroC s.Cond then 0 else cN s.Cond:Nat):Int))=(sDp (d+1) s&&(decide (st+sNp s<=64)&&decide (co+sC s<=256))):=by
    rw[Bool.eq_iff_iff,Qfc _ _ _ _ (by omega) (by omega),QdA]
    simp only[Bool.and_eq_true,decide_eq_true_eq,QfP,QeF,QdC]
    have e2:fSs (stepParts s)=sNs s.Then+sNs s.Else:=by unfold stepParts;rw[QdX,Qa0,Qa0]
    have e3:fCs (stepParts s)=sCs s.Then+sCs s.Else:=by unfold stepParts;rw[QdZ,Qa1,Qa1]
    rw[e2,e3]
    have hz1:(zeroC s.Cond||cD 1 s.Cond)=true:=by
     cases hz:zeroC s.Cond with
     |true=>rfl
     |false=>
      rw[hz]at hb
      simp only[Bool.false_or,Bool.and_eq_true]at hb
      rw[hb.1];rfl
    constructor
    ·rintro⟨h4,h5,h6⟩;exact⟨⟨hz1,h4⟩,by omega,by omega⟩
    ·rintro⟨⟨_,h4⟩,h5,h6⟩;exact⟨h4,by omega,by omega⟩
   rw[eL]at p1 p2
   refine⟨c3,Ev.bind q1 ?_,fun h=>?_⟩
   ·simp only[Bool.not_true,cond_false]
    refine Ev.bind (v:=(c3, !(sDp (d+1) s&&(decide (st+sNp s<=64)&&decide (co+sC s<=256))))) ?_ ?_
    ·rw[QS g1,QS g2,ed]
     exact Ev.bind (Qbf s hw') (Ev.bind p1 (Qa _))
    ·cases(sDp (d+1) s&&(decide (st+sNp s<=64)&&decide (co+sC s<=256)))<;>exact Qa _
   ·rw[p2 h]
    have e2:fSs (stepParts s)=sNs s.Then+sNs s.Else:=by unfold stepParts;rw[QdX,Qa0,Qa0]
    have e3:fCs (stepParts s)=sCs s.Then+sCs s.Else:=by unfold stepParts;rw[QdZ,Qa1,Qa1]
    rw[e2,e3,show fS (typing_form.ctyping_step {Step:=s})=sNp s from rfl,show fC (typing_form.ctyping_step {Step:=s})=sC s from rfl,QeF,QdC]
    congr 1<;>omega
 |ctyping_cond x=>
  obtain⟨c⟩:=x
  have hw':Cond.wf c:=hw
  obtain⟨wp1,wp2⟩:=YT hw'
  have e1:IntKind.i64.wrap (co+1)=co+1:=Ya (by omega) (by omega)
  simp only[typing_form.elim,e1]
  have hF:okF (typing_form.ctyping_cond {Cond:=c}) d st co=(cD (d+1) c&&(decide (st<=64)&&decide (co+cN c<=256))):=by
   show(cD (d+1) c&&(decide (st+((0:Nat):Int)<=64)&&decide (co+cN c<=256)))=_
   rw[show st+((0:Nat):Int)=st by omega]
  rw[hF]
  by_cases g1:64<st
  ·have:(cD (d+1) c&&(decide (st<=64)&&decide (co+cN c<=256)))=false:=by
    rw[QS (show¬st<=64 by omega)];simp
   rw[this]
   refine⟨{steps:=st,conds:=co+1},?_,fun h=>by cases h⟩
   refine Ev.bind (v:=(_,true)) ?_ (Qa _)
   rw[QO g1]
   exact Qa _
  by_cases g2:256<co+1
  ·have:(cD (d+1) c&&(decide (st<=64)&&decide (co+cN c<=256)))=false:=by
    rw[QS (show¬co+(cN c:Int)<=256 by rw[Qbx];omega)];simp
   rw[this]
   refine⟨{steps:=st,conds:=co+1},?_,fun h=>by cases h⟩
   refine Ev.bind (v:=(_,true)) ?_ (Qa _)
   rw[QS g1,QO g2]
   exact Qa _
  obtain⟨c3,p1,p2⟩:=ih (c.Parts.map ofCond) (d+1) st (co+1) (by
    rw[QdW]
    show _<cN c
    rw[Qbx];omega) (by simp;omega) (by
    intro g hg
    obtain⟨y,hy,rfl⟩:=List.mem_map.1 hg;exact wp2 y hy) (by omega) (by omega) (by omega) (.inl (by omega)) (by omega) (by omega)
  have eL:okL (c.Parts.map ofCond) (d+1) st (co+1)=(cD (d+1) c&&(decide (st<=64)&&decide (co+cN c<=256))):=by
   rw[Bool.eq_iff_iff,Qfc _ _ _ _ (by omega) (by omega), <- Qgc,QdY,Qd0]
   simp only[Bool.and_eq_true,decide_eq_true_eq,QhI,Qbx]
   constructor
   ·rintro⟨h4,h5,h6⟩;exact⟨h4,by omega,by omega⟩
   ·rintro⟨h4,h5,h6⟩;exact⟨h4,by omega,by omega⟩
  rw[eL]at p1 p2
  refine⟨c3,?_,fun h=>?_⟩
  ·refine Ev.bind (v:=(c3, !(cD (d+1) c&&(decide (st<=64)&&decide (co+cN c<=256))))) ?_ ?_
   ·rw[QS g1,QS g2,ed]
    exact Ev.bind (Qcm c hw') (Ev.bind p1 (Qa _))
   ·cases(cD (d+1) c&&(decide (st<=64)&&decide (co+cN c<=256)))<;>exact Qa _
  ·rw[p2 h,QdY,Qd0,show fS (typing_form.ctyping_cond {Cond:=c})=0 from rfl,show fC (typing_form.ctyping_cond {Cond:=c})=cN c from rfl,Qbx]
   congr 1
   omega
theorem Qju:∀(m:Nat) (l:List typing_form) (d:Nat) (st co:Int),fZs l<=m->l.length<=2097152->(∀f∈l,fwf f)->d<=17->0<=st->st<=66->(st<=65\/ ∀f∈l,∃c,f=ofCond c)->0<=co->co<=256->Cnt F_e l d st co:=by
 intro m
 induction m using Nat.strongRecOn with
 |_ m ih=>
 intro l d st co hm hl hw hd h0 h1 h1' h2 h3
 unfold Cnt
 have unf:∀c:typing_count,(∃c':typing_count,Ev (fun n=>B_e (F_e n) n l (d:Int) c) (c',okL l d st co)/\(okL l d st co=true->c'={steps:=st+fSs l,conds:=co+fCs l}))->∃c':typing_count,Ev (fun n=>F_e n l (d:Int) c) (c',okL l d st co)/\(okL l d st co=true->c'={steps:=st+fSs l,conds:=co+fCs l}):=by
  rintro c ⟨c',q1,q2⟩
  exact⟨c',YA q1,q2⟩
 refine unf _ ?_
 unfold B_e
 cases hll:l with
 |nil=>
  refine⟨{steps:=st,conds:=co},?_,fun _=>by simp[fSs,fCs]⟩
  refine Ev.bind (v:=false) (Qa _) (Yi ?_)
  refine Ev.bind (v:=Ctl.cont {steps:=st,conds:=co}) (EvI.ev (EvI.done ?_)) (Qa _)
  exact Qa _
 |cons f0 r0=>
 rw[<- hll]
 have hne:l.isEmpty=false:=by rw[hll];rfl
 have hpos:0<l.length:=by rw[hll];simp
 by_cases hdd:d<=16
 rotate_left
 ·have:okL l d st co=false:=by unfold okL;rw[hne,QS hdd];rfl
  rw[this]
  refine⟨{steps:=st,conds:=co},?_,fun h=>by cases h⟩
  rw[QO (show(0:Int)<(l.length:Int)by omega),QO (show(16:Int)<(d:Int)by omega)]
  exact Ev.bind (Qa _) (Qa _)
 have eLR:okL l d st co=okR l d st co:=by unfold okL okR;rw[QO hdd,Bool.true_and]
 rw[eLR]
 have loop:∀(r:List typing_form) (i:Nat) (st co:Int),l.drop i=r->i<=l.length->0<=st->st<=66->(st<=65\/ ∀f∈l,∃c,f=ofCond c)->0<=co->co<=256->
   ∃c':typing_count,EvI (fun n=>F_dw n l (d:Int) (F_e n)) ({steps:=st,conds:=co},(i:Int)) (bif okR r d st co then Ctl.cont c' else Ctl.done (c',false))/\(okR r d st co=true->c'={steps:=st+fSs r,conds:=co+fCs r}):=by
  intro r
  induction r with
  |nil=>
   intro i st co hr hi _ _ _ _ _
   refine⟨{steps:=st,conds:=co},EvI.done ?_,fun _=>by simp[fSs,fCs]⟩
   unfold F_dw
   simp only[Yu hr hi,cond_false]
   exact Qa _
  |cons f r ihr=>
   intro i st co hr hi g0 g1 g1' g2 g3
   obtain⟨ha,hr'⟩:=QQ (by omega) hr
   have hfm:fZ f<=fZs l:=by
    have:∀(l:List typing_form),f∈l->fZ f<=fZs l:=by
     intro l
     induction l with
     |nil=>intro h;cases h
     |cons x l ih=>
      intro h
      rw[Qga]
      rcases List.mem_cons.1 h with rfl|h
      ·omega
      ·have:=ih h;omega
    exact this l ha.mem
   obtain⟨c',p1,p2⟩:=Qg5 (R:=F_e) hdd ha (hw f ha.mem) (fun l' d' st co k1 k2 k3 k4 k5 k6 k6' k7 k8=>ih (fZs l') (by omega) l' d' st co (Nat.le_refl _) k2 k3 k4 k5 k6 k6' k7 k8) g0 g1 (g1'.imp id fun h=>h f ha.mem) g2 g3
   rw[Qi6]
   cases hf:okF f d st co with
   |false=>
    rw[hf]at p1
    exact⟨c',EvI.done p1,fun h=>by cases h⟩
   |true=>
    rw[hf]at p1
    obtain rfl:=p2 hf
    have hb:st+fS f<=64/\co+fC f<=256:=by
     unfold okF at hf
     simp only[Bool.and_eq_true,decide_eq_true_eq]at hf
     exact hf.2
    obtain⟨c2,u1,u2⟩:=ihr (i+1) (st+fS f) (co+fC f) hr' (by have:=ha.lt';omega) (by omega) (by omega) (.inl (by omega)) (by omega) (by omega)
    refine⟨c2,EvI.cont p1 u1,fun h=>?_⟩
    rw[u2 (by simpa using h),Qgb,Qgd]
    congr 1<;>omega
 obtain⟨c',p1,p2⟩:=loop l 0 st co rfl (Nat.zero_le _) h0 h1 h1' h2 h3
 refine⟨c',?_,p2⟩
 refine Ev.bind (v:=false) ?_ (Yi (Ev.bind p1.ev ?_))
 ·rw[QO (show(0:Int)<(l.length:Int)by omega),QS (show¬(16:Int)<(d:Int)by omega)]
  exact Qa _
 ·cases okR l d st co<;>exact Qa _
mutual
def vaC:Cond->Bool
 |⟨k,v,n,ps⟩=>bif k==1 then inR 1 3 v&&(inR 0 10000 n&&((ps.length:Int)==0))else
   bif k==4 then((v==0)&&(n==0))&&(((ps.length:Int)==1)&&vaCs ps)else
   bif (k==2)||(k==3)then((v==0)&&(n==0))&&((decide (0<(ps.length:Int))&&decide ((ps.length:Int)<=16))&&vaCs ps)else false
def vaCs:List Cond->Bool
 |[]=>true
 |c::r=>vaC c&&vaCs r
end
theorem QiJ(c:Cond):vaC c=bif c.Kind==1 then inR 1 3 c.Var&&(inR 0 10000 c.N&&((c.Parts.length:Int)==0))else
   bif c.Kind==4 then((c.Var==0)&&(c.N==0))&&(((c.Parts.length:Int)==1)&&vaCs c.Parts)else
   bif (c.Kind==2)||(c.Kind==3)then((c.Var==0)&&(c.N==0))&&((decide (0<(c.Parts.length:Int))&&decide ((c.Parts.length:Int)<=16))&&vaCs c.Parts)else false:=by cases c;rfl
theorem Qe4:∀l:List Cond,vaCs l=l.all vaC
 |[]=>rfl
 |c::r=>by rw[vaCs,List.all_cons,Qe4 r]
mutual
def vaS:Step->Bool
 |⟨k,b,c,t,e⟩=>bif k==1 then inR 1 5 b&&(zeroC c&&(((t.length:Int)==0)&&((e.length:Int)==0)))else
   bif k==2 then(b==0)&&(vaC c&&(decide (0<(t.length:Int))&&(vaSs t&&vaSs e)))else false
def vaSs:List Step->Bool
 |[]=>true
 |s::r=>vaS s&&vaSs r
end
theorem QiI(s:Step):vaS s=bif s.Kind==1 then inR 1 5 s.By&&(zeroC s.Cond&&(((s.Then.length:Int)==0)&&((s.Else.length:Int)==0)))else
   bif s.Kind==2 then(s.By==0)&&(vaC s.Cond&&(decide (0<(s.Then.length:Int))&&(vaSs s.Then&&vaSs s.Else)))else false:=by cases s;rfl
theorem Qe3:∀l:List Step,vaSs l=l.all vaS
 |[]=>rfl
 |c::r=>by rw[vaSs,List.all_cons,Qe3 r]
def fV:typing_form->Bool
 |.ctyping_step x=>vaS x.Step
 |.ctyping_cond x=>vaC x.Cond
theorem Qg8(l:List Cond):(l.map ofCond).any (fun f=> !fV f)= !vaCs l:=by
 rw[Qe4,List.not_all_eq_any_not,List.any_map]
 rfl
theorem Qb2(l:List Step):(l.map ofStep).any (fun f=> !fV f)= !vaSs l:=by
 rw[Qe3,List.not_all_eq_any_not,List.any_map]
 rfl
theorem QeP{R:Nat->List typing_form->Option Bool}(c:Cond)(hw:Cond.wf c)(ih:Ev (fun n=>R n (c.Parts.map ofCond)) (!vaCs c.Parts)):
  Ev (fun n=>F_ct (R n) n {Cond:=c}) (vaC c):=by
 unfold F_ct
 rw[QiJ]
 refine Ev.bind (v:=(c.Var==0)&&(c.N==0)) (Qf fun _=>Qa _) ?_
 refine Qbl (fun _=>?_) (fun h1=>?_)
 ·exact Ev.bind (Ev.bind (Qv _ _ _) (Qf fun _=>Ev.bind (Qv _ _ _) (Qf fun _=>Qa _))) (Qa _)
 ·have fin:∀b:Bool,Ev (fun n=>((bif b then(F_t n {Cond:=c}).bind fun r42=>(R n r42).bind fun r43=>some (!r43)else some false):Option Bool).bind fun b39=>some b39) (b&&vaCs c.Parts):=by
   intro b
   refine Ev.bind ((Qf fun _=>Ev.bind (Qcm c hw) (Ev.bind ih (Qa _)))) ((Qa _).eq (by simp))
  cases h4:(c.Kind==4)with
  |true=>
   simp only[cond_true]
   cases hp:((c.Var==0)&&(c.N==0))with
   |true=>
    refine Ev.bind (v:=Ctl.cont ((c.Parts.length:Int)==1)) (Qa _) ((fin _).eq (by simp))
   |false=>
    refine Ev.bind (v:=Ctl.cont false) (Qa _) ((fin _).eq (by simp))
  |false=>
   simp only[cond_false]
   cases h23:((c.Kind==2)||(c.Kind==3))with
   |true=>
    simp only[cond_true]
    have e:Ev (fun n:Nat=>((bif (c.Kind==2)then some (c.Kind==2)else some (c.Kind==3)):Option Bool)) true:=by
     refine Ev.const ?_
     rw[Qfu,h23]
    cases hp:((c.Var==0)&&(c.N==0))with
    |true=>
     cases h0:decide (0<(c.Parts.length:Int))with
     |true=>
      refine Ev.bind (v:=Ctl.cont (decide ((c.Parts.length:Int)<=16))) (Ev.bind e (Qa _)) ((fin _).eq (by simp))
     |false=>
      refine Ev.bind (v:=Ctl.cont false) (Ev.bind e (Qa _)) ((fin _).eq (by simp))
    |false=>
     refine Ev.bind (v:=Ctl.cont false) (Ev.bind e (Qa _)) ((fin _).eq (by simp))
   |false=>
    have e:Ev (fun n:Nat=>((bif (c.Kind==2)then some (c.Kind==2)else some (c.Kind==3)):Option Bool)) false:=by
     refine Ev.const ?_
     rw[Qfu,h23]
    refine Ev.bind (v:=Ctl.done false) (Ev.bind e (Qa _)) (Qa _)
theorem Qg1:∀(m:Nat) (l:List typing_form),fZs l<=m->l.length<=2097152->(∀f∈l,fwf f)->Ev (fun n=>F_j n l) (l.any fun f=> !fV f):=by
 intro m
 induction m using Nat.strongRecOn with
 |_ m ih=>
 intro l hm hl hw
 refine YA ?_
 show Ev (fun n=>B_j (F_j n) n l) _
 unfold B_j F_eo
 refine Ev.contains l _ (fun n f=>F_co (F_j n) n f) (by omega) fun f hf=>?_
 have hfm:fZ f<=fZs l:=by
  have:∀(l:List typing_form),f∈l->fZ f<=fZs l:=by
   intro l
   induction l with
   |nil=>intro h;cases h
   |cons x l ih=>
    intro h
    rw[Qga]
    rcases List.mem_cons.1 h with rfl|h
    ·omega
    ·have:=ih h;omega
  exact this l hf
 unfold F_co
 refine Ev.bind (v:=fV f) ?_ (Qa _)
 have condIH:∀c:Cond,Cond.wf c->cNs c.Parts<fZ f->Ev (fun n=>F_j n (c.Parts.map ofCond)) (!vaCs c.Parts):=by
  intro c hc hs
  rw[<- Qg8]
  obtain⟨w1,w2⟩:=YT hc
  refine ih (fZs (c.Parts.map ofCond)) (by rw[QdW];omega) _ (Nat.le_refl _) (by simp;omega) ?_
  intro g hg
  obtain⟨y,hy,rfl⟩:=List.mem_map.1 hg;exact w2 y hy
 cases f with
 |ctyping_cond x=>
  obtain⟨c⟩:=x
  have hc:Cond.wf c:=hw _ hf
  exact QeP (R:=F_j) c hc (condIH c hc (by show cNs c.Parts<cN c;rw[Qbx];omega))
 |ctyping_step x=>
  obtain⟨s⟩:=x
  have hs:Step.wf s:=hw _ hf
  obtain⟨wc,⟨wt1,wt2⟩,⟨we1,we2⟩⟩:=YR hs
  unfold F_fj
  show Ev _ (vaS s)
  rw[QiI]
  simp only[typing_form.elim]
  refine Qbl (fun _=>?_) (fun h1=>Qbl (fun _=>?_) fun _=>Qa _)
  ·refine Ev.bind (Ev.bind (Qv _ _ _) (Qf fun _=>?_)) (Qa _)
   simp only[QeQ,Option.bind_some]
   refine Qf fun _=>Ev.bind (Qbf s hs) ((Qa _).eq ?_)
   unfold stepParts
   rw[Bool.eq_iff_iff]
   simp only[beq_iff_eq,Bool.and_eq_true,List.length_append,List.length_map]
   omega
  ·refine Ev.bind (Qf fun _=>?_) (Qa _)
   refine Ev.bind (QeP (R:=F_j) s.Cond wc (condIH s.Cond wc (by show _<sZ s;rw[QeE,Qbx];omega))) (Qf fun _=>Qf fun _=>?_)
   refine Ev.bind (Qbf s hs) (Ev.bind (ih (fZs (stepParts s)) ?_ _ (Nat.le_refl _) (by unfold stepParts;simp;omega) ?_) ((Qa _).eq ?_))
   ·have:fZs (stepParts s)<sZ s:=by
     unfold stepParts
     rw[QdV,Qbu,Qbu,QeE];omega
    have h2:fZ (typing_form.ctyping_step {Step:=s})=sZ s:=rfl
    omega
   ·intro g hg
    unfold stepParts at hg
    rcases List.mem_append.1 hg with hg|hg
    ·obtain⟨y,hy,rfl⟩:=List.mem_map.1 hg;exact wt2 y hy
    ·obtain⟨y,hy,rfl⟩:=List.mem_map.1 hg;exact we2 y hy
   ·unfold stepParts
    rw[List.any_append,Qb2,Qb2]
    simp
def goodT(l:List Step):Bool:=sDs 0 l&&(decide (sNs l<=64)&&decide (sCs l<=256))
def tiesE(l:List Step):Int:=bif goodT l then(bif l.isEmpty|| !vaSs l then 71 else 0)else 2
theorem Qi7(l:List Step):okL (l.map ofStep) 0 0 0=goodT l:=by
 rw[Bool.eq_iff_iff,Qfc _ _ _ _ (by omega) (by omega), <- Qcl,Qa0,Qa1]
 unfold goodT
 simp only[Bool.and_eq_true,decide_eq_true_eq]
 constructor
 ·rintro⟨a,b,c⟩;exact⟨a,by omega,by omega⟩
 ·rintro⟨a,b,c⟩;exact⟨a,by omega,by omega⟩
theorem Qkz(l:List Step)(hl:l.length<=1048576)(hw:∀x∈l,Step.wf x):Ev (fun n=>F_bm n l) (tiesE l):=by
 unfold F_bm
 refine Ev.bind (Qd3 l (by omega)) (Ev.bind (v:=tiesE l) ?_ (Qa _))
 have fw:∀f∈l.map ofStep,fwf f:=by
  intro g hg
  obtain⟨y,hy,rfl⟩:=List.mem_map.1 hg;exact hw y hy
 obtain⟨c',p1,p2⟩:=Qju _ (l.map ofStep) 0 0 0 (Nat.le_refl _) (by simp;omega) fw (by omega) (by omega) (by omega) (.inl (by omega)) (by omega) (by omega)
 rw[Qi7]at p1
 unfold F_dp
 have p3:Ev (fun n=>F_eh n (l.map ofStep) 0 {steps:=0,conds:=0}) (c',goodT l):=p1.shift
 refine Ev.bind p3 ?_
 unfold tiesE
 cases goodT l with
 |false=>exact Qa _
 |true=>
  simp only[Bool.not_true,cond_false,cond_true]
  have e:(((l.map ofStep).length:Int)==0)=l.isEmpty:=by
   cases l<;>simp
   omega
  rw[e]
  refine Ev.bind (Qp fun _=>Ev.bind (Qg1 _ _ (Nat.le_refl _) (by simp;omega) fw) (Qa _)) ?_
  rw[Qb2]
  cases(l.isEmpty|| !vaSs l)<;>exact Qa _
def condB(d:Nat):Int:=256*(18-(d:Int))+1000
theorem QbS:∀(m:Nat) (c:Cond) (d:Nat),cN c<=m->d<=17->Cond.wf c->∃v:Int,Ev (fun n=>F_h n c (d:Int)) v/\0<=v/\v<=condB d/\
  (d<=16/\cD (d+1) c=true/\cN c<=256->v=cN c)/\(¬(d<=16/\cD (d+1) c=true/\cN c<=256)->256<v):=by
 intro m
 induction m using Nat.strongRecOn with
 |_ m ih=>
 intro c d hm hd hw
 obtain⟨wp1,wp2⟩:=YT hw
 have unf:∀{P:Int->Prop},(∃v:Int,Ev (fun n=>B_h (F_h n) n c (d:Int)) v/\P v)->∃v:Int,Ev (fun n=>F_h n c (d:Int)) v/\P v:=by
  rintro P ⟨v,h1,h2⟩;exact⟨v,YA h1,h2⟩
 refine unf ?_
 unfold B_h
 by_cases hdd:d<=16
 ·rw[QS (show¬(16:Int)<(d:Int)by omega)]
  have ed:IntKind.i64.wrap ((d:Int)+1)=((d+1:Nat):Int):=YJ (by omega)
  have loop:∀(r:List Cond) (i:Nat) (a:Int),c.Parts.drop i=r->i<=c.Parts.length->0<=a->a<=condB d->
    ∃v:Int,EvI (fun n=>F_dl n c (d:Int) (F_h n)) (a,(i:Int)) v/\0<=v/\v<=condB d/\
     (cDs (d+1) r=true/\a+cNs r<=256->v=a+cNs r)/\(¬(cDs (d+1) r=true/\a+cNs r<=256)->256<v):=by
   intro r
   induction r with
   |nil=>
    intro i a hr hi h0 h1
    refine⟨a,EvI.done ?_,h0,h1,fun _=>by simp[cNs],fun h=>?_⟩
    ·unfold F_dl
     simp only[Yu hr hi,cond_false,Option.bind_some]
     exact Qa _
    ·simp[cDs,cNs]at h;omega
   |cons x r ihr=>
    intro i a hr hi h0 h1
    obtain⟨ha,hr'⟩:=QQ (by omega) hr
    have hx:cN x<cN c:=by
     have:∀l:List Cond,x∈l->cN x<=cNs l:=by
      intro l
      induction l with
      |nil=>intro h;cases h
      |cons y l ih=>
       intro h
       rw[cNs]
       rcases List.mem_cons.1 h with rfl|h
       ·omega
       ·have:=ih h;omega
     have:=this _ ha.mem
     rw[Qbx c];omega
    by_cases hlim:a<=256
    ·obtain⟨v,p1,p2,p3,p4,p5⟩:=ih (cN x) (by omega) x (d+1) (Nat.le_refl _) (by omega) (wp2 x ha.mem)
     have hB:condB (d+1)+256=condB d:=by unfold condB;omega
     have hB2:condB d<=6000:=by unfold condB;omega
     have e1:IntKind.i64.wrap (a+v)=a+v:=Ya (by omega) (by omega)
     obtain⟨w,q1,q2,q3,q4,q5⟩:=ihr (i+1) (a+v) hr' (by have:=ha.lt';omega) (by omega) (by omega)
     refine⟨w,EvI.cont ?_ q1,q2,q3,?_,?_⟩
     ·unfold F_dl
      simp only[ha.lt,cond_true,QO hlim,Option.bind_some,ha.ix,ha.nx,ed]
      refine Ev.bind p1 ?_
      rw[e1]
      exact Qa _
     ·rintro⟨h2,h3⟩
      simp only[cDs,Bool.and_eq_true,decide_eq_true_eq]at h2
      rw[cNs]at h3⊢
      have:=p4 ⟨h2.1,h2.2.1,by omega⟩
      subst this
      rw[q4 ⟨h2.2.2,by omega⟩]
      omega
     ·intro hn
      by_cases hg:d+1<=16/\cD (d+1+1) x=true/\cN x<=256
      ·have:=p4 hg
       subst this
       refine q5 fun h2=>hn ⟨?_,?_⟩
       ·simp only[cDs,Bool.and_eq_true,decide_eq_true_eq];exact⟨hg.1,hg.2.1,h2.1⟩
       ·rw[cNs];omega
      ·have:=p5 hg
       exact q5 fun h2=>by omega
    ·refine⟨a,EvI.done ?_,h0,h1,fun h=>?_,fun _=>by omega⟩
     ·unfold F_dl
      simp only[ha.lt,cond_true,QS hlim,Option.bind_some,cond_false]
      exact Qa _
     ·omega
  obtain⟨v,p1,p2,p3,p4,p5⟩:=loop c.Parts 0 1 rfl (Nat.zero_le _) (by omega) (by unfold condB;omega)
  refine⟨v,Yi (Ev.bind p1.ev (Qa _)),p2,p3,?_,?_⟩
  ·rintro⟨_,h2,h3⟩
   rw[QhI]at h2
   rw[Qbx]at h3⊢
   rw[p4 ⟨h2,by omega⟩];omega
  ·intro hn
   refine p5 fun h=>hn ⟨hdd,by rw[QhI];exact h.1,by rw[Qbx];omega⟩
 ·rw[QO (show(16:Int)<(d:Int)by omega)]
  refine⟨1000,QhP (Qa _),by omega,by unfold condB;omega,fun h=>absurd h.1 hdd,fun _=>by omega⟩
def sizeB:Nat->Int
 |0=>10000
 |k+1=>3*sizeB k
theorem Qb5:∀k,10000<=sizeB k
 |0=>Int.le_refl _
 |k+1=>by have:=Qb5 k;simp only[sizeB];omega
theorem QiS{k:Nat}(h:k<=17):sizeB k<=1291401630000:=by
 have:∀j,j<=17->sizeB j<=1291401630000:=by decide+kernel
 exact this k h
def goodL(d:Nat)(l:List Step):Prop:=sDs d l=true/\sNs l<=64/\sCs l<=256
theorem QhE:∀(m:Nat) (l:List Step) (d:Nat),sZs l<=m->d<=17->l.length<=1048576->(∀x∈l,Step.wf x)->∃a b:Int,Ev (fun n=>F_l n l (d:Int)) (a,b)/\0<=a/\0<=b/\a<=sizeB (17-d)/\b<=sizeB (17-d)/\
  (goodL d l->a=sNs l/\b=sCs l)/\(¬goodL d l->64<a\/256<b):=by
 intro m
 induction m using Nat.strongRecOn with
 |_ m ih=>
 intro l d hm hd hl hw
 have unf:∀{P:Int->Int->Prop},(∃a b:Int,Ev (fun n=>B_l (F_l n) n l (d:Int)) (a,b)/\P a b)->∃a b:Int,Ev (fun n=>F_l n l (d:Int)) (a,b)/\P a b:=by
  rintro P ⟨a,b,h1,h2⟩;exact⟨a,b,YA h1,h2⟩
 refine unf ?_
 unfold B_l
 by_cases hbad:0<l.length/\ ¬d<=16
 ·rw[QO (show(0:Int)<(l.length:Int)by omega),QO (show(16:Int)<(d:Int)by omega)]
  have:=Qb5 (17-d)
  refine⟨1000,1000,Ev.bind (Qa _) (QhP (Qa _)),by omega,by omega,by omega,by omega,fun h=>?_,fun _=>by omega⟩
  exfalso
  cases l with
  |nil=>simp at hbad
  |cons x r=>
   have:=h.1
   simp only[sDs,Bool.and_eq_true,decide_eq_true_eq]at this
   exact hbad.2 this.1
 ·have h0:Ev (fun n:Nat=>((bif decide (0<(l.length:Int))then some (decide (16<(d:Int)))else some false):Option Bool)) false:=by
   by_cases hp:0<l.length
   ·have:d<=16:=by
     rcases Nat.lt_or_ge 16 d with q|q
     ·exact absurd ⟨hp,by omega⟩ hbad
     ·exact q
    rw[QO (show(0:Int)<(l.length:Int)by omega),QS (show¬(16:Int)<(d:Int)by omega)]
    exact Qa _
   ·rw[QS (show¬(0:Int)<(l.length:Int)by omega)]
    exact Qa _
  have ed:IntKind.i64.wrap ((d:Int)+1)=((d+1:Nat):Int):=YJ (by omega)
  have loop:∀(r:List Step) (i:Nat) (a b:Int),l.drop i=r->i<=l.length->0<=a->0<=b->a<=sizeB (17-d)->b<=sizeB (17-d)->
    ∃a' b':Int,EvI (fun n=>F_du n l (d:Int) (F_l n)) (a,b,(i:Int)) (a',b')/\0<=a'/\0<=b'/\a'<=sizeB (17-d)/\b'<=sizeB (17-d)/\
     (sDs d r=true/\a+sNs r<=64/\b+sCs r<=256->a'=a+sNs r/\b'=b+sCs r)/\(¬(sDs d r=true/\a+sNs r<=64/\b+sCs r<=256)->64<a'\/256<b'):=by
   intro r
   induction r with
   |nil=>
    intro i a b hr hi h0 h1 h2 h3
    refine⟨a,b,EvI.done ?_,h0,h1,h2,h3,fun _=>by simp[sNs,sCs],fun h=>?_⟩
    ·unfold F_du
     simp only[Yu hr hi,cond_false,Option.bind_some]
     exact Qa _
    ·simp[sDs,sNs,sCs]at h;omega
   |cons s r ihr=>
    intro i a b hr hi h0 h1 h2 h3
    obtain⟨ha,hr'⟩:=QQ (by omega) hr
    have hlt:=ha.lt'
    have hd16:d<=16:=by
     rcases Nat.lt_or_ge 16 d with q|q
     ·exact absurd ⟨by omega,by omega⟩ hbad
     ·exact q
    have hsz:sZ s<=sZs l:=by
     have:∀l:List Step,s∈l->sZ s<=sZs l:=by
      intro l
      induction l with
      |nil=>intro h;cases h
      |cons y l ih=>
       intro h
       rw[sZs]
       rcases List.mem_cons.1 h with rfl|h
       ·omega
       ·have:=ih h;omega
     exact this _ ha.mem
    by_cases hlim:a<=64/\b<=256
    ·obtain⟨wc,⟨wt1,wt2⟩,⟨we1,we2⟩⟩:=YR (hw s ha.mem)
     have hzz:=QeE s
     obtain⟨x1,x2,p1,p2,p3,p4,p5,p6,p7⟩:=ih (sZs s.Then) (by omega) s.Then (d+1) (Nat.le_refl _) (by omega) wt1 wt2
     obtain⟨y1,y2,q1,q2,q3,q4,q5,q6,q7⟩:=ih (sZs s.Else) (by omega) s.Else (d+1) (Nat.le_refl _) (by omega) we1 we2
     have hB:sizeB (17-d)=3*sizeB (17-(d+1)):=by
      rw[show 17-d=(17-(d+1))+1 by omega];rfl
     have hB1:=Qb5 (17-(d+1))
     have hB2:=QiS (k:=17-d) (by omega)
     have hc:∃z:Int,0<=z/\z<=5608/\Ev (fun n=>((bif (!zeroC s.Cond)then(idx l (i:Int)).bind fun x72=>(F_h n x72.Cond 0).bind fun r73=>some (IntKind.i64.wrap ((IntKind.i64.wrap ((IntKind.i64.wrap (b+x2))+y2))+r73))else some (IntKind.i64.wrap ((IntKind.i64.wrap (b+x2))+y2))):Option Int)) (b+x2+y2+z)/\
       ((zeroC s.Cond||cD 1 s.Cond)=true/\(bif zeroC s.Cond then 0 else cN s.Cond)<=256->z=((bif zeroC s.Cond then 0 else cN s.Cond:Nat):Int))/\(¬((zeroC s.Cond||cD 1 s.Cond)=true/\(bif zeroC s.Cond then 0 else cN s.Cond)<=256)->256<z):=by
      have e1:IntKind.i64.wrap (b+x2)=b+x2:=Ya (by omega) (by omega)
      have e2:IntKind.i64.wrap (b+x2+y2)=b+x2+y2:=Ya (by omega) (by omega)
      cases hz:zeroC s.Cond with
      |true=>
       refine⟨0,by omega,by omega,?_,fun _=>by simp,fun h=>absurd ⟨rfl,by simp⟩ h⟩
       simp only[Bool.not_true,cond_false,e1,e2]
       exact(Qa _).eq (by omega)
      |false=>
       obtain⟨v,u1,u2,u3,u4,u5⟩:=QbS _ s.Cond 0 (Nat.le_refl _) (by omega) wc
       have u3':v<=5608:=by unfold condB at u3;omega
       have e3:IntKind.i64.wrap (b+x2+y2+v)=b+x2+y2+v:=Ya (by omega) (by omega)
       refine⟨v,u2,u3',?_,fun h=>?_,fun h=>?_⟩
       ·simp only[Bool.not_false,cond_true,ha.ix,Option.bind_some,e1,e2]
        refine Ev.bind u1 ?_
        rw[e3]
        exact Qa _
       ·simp only[Bool.false_or,cond_false]at h⊢
        exact u4 ⟨by omega,h.1,h.2⟩
       ·simp only[Bool.false_or,cond_false]at h
        exact u5 fun q=>h ⟨q.2.1,q.2.2⟩
     obtain⟨z,z0,z1,z2,z3,z4⟩:=hc
     have e4:IntKind.i64.wrap (a+1)=a+1:=Ya (by omega) (by omega)
     have e5:IntKind.i64.wrap (a+1+x1)=a+1+x1:=Ya (by omega) (by omega)
     have e6:IntKind.i64.wrap (a+1+x1+y1)=a+1+x1+y1:=Ya (by omega) (by omega)
     obtain⟨w1,w2,v1,v2,v3,v4,v5,v6,v7⟩:=ihr (i+1) (a+1+x1+y1) (b+x2+y2+z) hr' (by omega) (by omega) (by omega) (by omega) (by omega)
     refine⟨w1,w2,EvI.cont ?_ v1,v2,v3,v4,v5,?_,?_⟩
     ·unfold F_du
      simp only[ha.lt,cond_true,QO hlim.1,QO hlim.2,Option.bind_some,ha.ix,ha.nx,ed,Qd4]
      refine Ev.bind p1 (Ev.bind q1 ?_)
      simp only[ha.ix,Option.bind_some]at z2
      refine Ev.bind z2 ?_
      rw[e4,e5,e6]
      exact Qa _
     ·rintro⟨g1,g2,g3⟩
      simp only[sDs,Bool.and_eq_true,decide_eq_true_eq,QfP]at g1
      obtain⟨g11,⟨g12,g13,g14⟩,g15⟩:=g1
      rw[sNs,QeF]at g2⊢
      rw[sCs,QdC]at g3⊢
      obtain⟨k1,k2⟩:=p6 ⟨g13,by omega,by omega⟩
      obtain⟨k3,k4⟩:=q6 ⟨g14,by omega,by omega⟩
      have k5:=z3 ⟨g12,by omega⟩
      obtain⟨k6,k7⟩:=v6 ⟨g15,by omega,by omega⟩
      constructor<;>omega
     ·intro hn
      by_cases b1:goodL (d+1) s.Then
      ·obtain⟨k1,k2⟩:=p6 b1
       by_cases b2:goodL (d+1) s.Else
       ·obtain⟨k3,k4⟩:=q6 b2
        by_cases b3:(zeroC s.Cond||cD 1 s.Cond)=true/\(bif zeroC s.Cond then 0 else cN s.Cond)<=256
        ·have k5:=z3 b3
         refine v7 fun q=>hn ⟨?_,?_,?_⟩
         ·simp only[sDs,Bool.and_eq_true,decide_eq_true_eq,QfP]
          exact⟨hd16,⟨b3.1,b1.1,b2.1⟩,q.1⟩
         ·rw[sNs,QeF];omega
         ·rw[sCs,QdC];omega
        ·have:=z4 b3
         exact v7 fun q=>by omega
       ·have:=q7 b2
        exact v7 fun q=>by omega
      ·have:=p7 b1
       exact v7 fun q=>by omega
    ·refine⟨a,b,EvI.done ?_,h0,h1,h2,h3,fun h=>?_,fun _=>?_⟩
     ·unfold F_du
      have:Ev (fun n:Nat=>((bif decide ((i:Int)<(l.length:Int))then(bif decide (a<=64)then some (decide (b<=256))else some false)else some false):Option Bool)) false:=by
       rw[ha.lt]
       by_cases q:a<=64
       ·rw[QO q,QS (show¬b<=256 from fun z=>hlim ⟨q,z⟩)];exact Qa _
       ·rw[QS q];exact Qa _
      exact Ev.bind this (Yi (Qa _))
     ·omega
     ·omega
  have hB1:=Qb5 (17-d)
  obtain⟨a,b,p1,p2,p3,p4,p5,p6,p7⟩:=loop l 0 0 0 rfl (Nat.zero_le _) (by omega) (by omega) (by omega) (by omega)
  refine⟨a,b,Ev.bind h0 (Yi (Ev.bind p1.ev (Qa _))),p2,p3,p4,p5,fun h=>?_,fun h=>?_⟩
  ·obtain⟨k1,k2⟩:=p6 ⟨h.1,by have:=h.2.1;omega,by have:=h.2.2;omega⟩
   constructor<;>omega
  ·exact p7 fun q=>h ⟨q.1,by omega,by omega⟩
theorem Qgg:∀(m:Nat) (c:Cond),cN c<=m->Cond.wf c->Ev (fun n=>F_r n c) (vaC c):=by
 intro m
 induction m using Nat.strongRecOn with
 |_ m ih=>
 intro c hm hw
 obtain⟨wp1,wp2⟩:=YT hw
 refine YA ?_
 show Ev (fun n=>B_r (F_r n) n c) _
 unfold B_r
 rw[QiJ]
 have hx:∀x∈c.Parts,cN x<cN c:=by
  intro x hx
  have:∀l:List Cond,x∈l->cN x<=cNs l:=by
   intro l
   induction l with
   |nil=>intro h;cases h
   |cons y l ih=>
    intro h
    rw[cNs]
    rcases List.mem_cons.1 h with rfl|h
    ·omega
    ·have:=ih h;omega
  have:=this _ hx
  rw[Qbx c];omega
 have loop:Ev (fun n=>iter (F_ea n c (F_r n)) n 0) (bif c.Parts.all vaC then Ctl.cont ()else Ctl.done false):=by
  refine Yx c.Parts vaC _ _ (by omega) (fun i x ha=>?_) ?_
  ·unfold F_ea
   simp only[ha.lt,cond_true,ha.ix,Option.bind_some,ha.nx]
   refine Ev.bind (ih (cN x) (by have:=hx x ha.mem;omega) x (Nat.le_refl _) (wp2 x ha.mem)) ?_
   cases vaC x<;>exact Qa _
  ·unfold F_ea
   simp only[Qaj,cond_false]
   exact Qa _
 have fin:Ev (fun n=>((bif (c.Var != 0)then some true else some (c.N != 0)):Option Bool).bind fun b35=>(bif b35 then some false else(iter (F_ea n c (F_r n)) n 0:Option (Ctl Unit Bool)).bind fun b48=>match b48 with|.cont sb48=>(some true)|.done sb48=>some sb48)) (((c.Var==0)&&(c.N==0))&&vaCs c.Parts):=by
  refine Ev.bind (v:= !((c.Var==0)&&(c.N==0))) (Ev.const ?_) ?_
  ·rw[Qcp]
   simp only[Bool.not_and,bne]
  ·cases((c.Var==0)&&(c.N==0))with
   |false=>exact Qa _
   |true=>
    refine Yi (Ev.bind loop ?_)
    rw[Qe4]
    cases c.Parts.all vaC<;>exact Qa _
 refine Qbl (fun _=>?_) (fun h1=>?_)
 ·refine Ev.bind (v:=_) ((Qf fun _=>Qf fun _=>Qf fun _=>Qf fun _=>Qa _).eq ?_) (Qa _)
  unfold inR
  simp only[Bool.and_assoc]
 ·have e:Ev (fun n:Nat=>((bif (c.Kind==2)then some (c.Kind==2)else some (c.Kind==3)):Option Bool)) ((c.Kind==2)||(c.Kind==3)):=Ev.const (by rw[Qfu])
  refine Ev.bind e ?_
  cases h23:((c.Kind==2)||(c.Kind==3))with
  |true=>
   have h4:(c.Kind==4)=false:=by
    rw[Bool.eq_false_iff]
    simp only[Bool.or_eq_true,beq_iff_eq]at h23
    simp only[beq_iff_eq,ne_eq]
    omega
   rw[h4]
   simp only[cond_false,cond_true]
   have e2:(bif decide ((c.Parts.length:Int)<1)then some true else some (decide (16<(c.Parts.length:Int))))=some (!(decide (0<(c.Parts.length:Int))&&decide ((c.Parts.length:Int)<=16))):=by
    rw[Qcp]
    congr 1
    rw[Bool.eq_iff_iff]
    simp only[Bool.or_eq_true,decide_eq_true_eq,Bool.not_eq_true',Bool.and_eq_false_iff,decide_eq_false_iff_not]
    omega
   rw[e2]
   cases h5:(decide (0<(c.Parts.length:Int))&&decide ((c.Parts.length:Int)<=16))with
   |false=>
    refine Ev.bind (v:=Ctl.done false) (Qa _) ((Qa _).eq (by simp))
   |true=>
    refine Ev.bind (v:=Ctl.cont ()) (Qa _) (fin.eq (by simp))
  |false=>
   simp only[cond_false]
   cases h4:(c.Kind==4)with
   |true=>
    simp only[cond_true]
    cases h5:((c.Parts.length:Int)==1)with
    |false=>
     refine Ev.bind (v:=Ctl.done false) (Ev.const ?_) ((Qa _).eq (by simp))
     simp only[bne,h5,Bool.not_false,cond_true]
    |true=>
     refine Ev.bind (v:=Ctl.cont ()) (Ev.const ?_) (fin.eq (by simp))
     simp only[bne,h5,Bool.not_true,cond_false]
   |false=>
    refine Ev.bind (v:=Ctl.done false) (Qa _) (Qa _)
theorem QgY(c:Cond)(hw:Cond.wf c)(h1:cD 1 c=true)(h2:cN c<=256):Ev (fun n=>F_ap n c) (bif vaC c then 0 else 71):=by
 obtain⟨v,p1,_,_,p4,_⟩:=QbS _ c 0 (Nat.le_refl _) (by omega) hw
 have:=p4 ⟨by omega,h1,h2⟩
 unfold F_ap
 refine Ev.bind p1 ?_
 rw[QS (show¬256<v by omega)]
 refine Yi (Ev.bind (Qgg _ c (Nat.le_refl _) hw) ?_)
 cases vaC c<;>exact Qa _
theorem QhR{c:Cond}(h:zeroC c=true):cD 1 c=true/\cN c<=256:=by
 unfold zeroC at h
 simp only[Bool.and_eq_true,beq_iff_eq]at h
 have:c.Parts=[]:=List.eq_nil_of_length_eq_zero (by omega)
 rw[QhI,Qbx,this]
 exact⟨rfl,by simp[cNs]⟩
theorem Qge:∀(m:Nat) (l:List Step) (d:Nat),sZs l<=m->l.length<=1048576->(∀x∈l,Step.wf x)->sDs d l=true->sCs l<=256->Ev (fun n=>F_f n l) (vaSs l):=by
 intro m
 induction m using Nat.strongRecOn with
 |_ m ih=>
 intro l d hm hl hw hd hc
 refine YA ?_
 show Ev (fun n=>B_f (F_f n) n l) _
 unfold B_f
 have hmem:∀s∈l,sZ s<=sZs l/\sDp (d+1) s=true/\sC s<=sCs l:=by
  intro s
  have:∀l:List Step,s∈l->sDs d l=true->sZ s<=sZs l/\sDp (d+1) s=true/\sC s<=sCs l:=by
   intro l
   induction l with
   |nil=>intro h;cases h
   |cons y l ih=>
    intro h hd
    simp only[sDs,Bool.and_eq_true]at hd
    rw[sZs,sCs]
    rcases List.mem_cons.1 h with rfl|h
    ·exact⟨by omega,hd.2.1,by omega⟩
    ·obtain⟨h1,h2,h3⟩:=ih h hd.2.2;exact⟨by omega,h2,by omega⟩
  exact fun h=>this l h hd
 rw[Qe3]
 have loop:Ev (fun n=>iter (F_gq n l (F_f n)) n 0) (bif l.all vaS then Ctl.cont ()else Ctl.done false):=by
  refine Yx l vaS _ _ (by omega) (fun i s ha=>?_) ?_
  ·obtain⟨m1,m2,m3⟩:=hmem s ha.mem
   obtain⟨wc,⟨wt1,wt2⟩,⟨we1,we2⟩⟩:=YR (hw s ha.mem)
   have hzz:=QeE s
   have hcc:=QdC s
   rw[QfP]at m2
   simp only[Bool.and_eq_true]at m2
   obtain⟨mz,mt,me⟩:=m2
   have hcond:cD 1 s.Cond=true/\cN s.Cond<=256:=by
    cases hz:zeroC s.Cond with
    |true=>exact QhR hz
    |false=>
     rw[hz]at mz hcc
     simp only[cond_false]at hcc
     exact⟨by simpa using mz,by omega⟩
   unfold F_gq
   simp only[ha.lt,cond_true,ha.ix,Option.bind_some,ha.nx,Qd4]
   rw[QiI]
   cases h1:(s.Kind==1)with
   |true=>
    simp only[cond_true]
    have e:Ev (fun n:Nat=>((bif decide (s.By<1)then some true else(bif decide (5<s.By)then some true else(bif (!zeroC s.Cond)then some true else(bif ((s.Then.length:Int) != 0)then some true else some ((s.Else.length:Int) != 0))))):Option Bool)) (!(inR 1 5 s.By&&(zeroC s.Cond&&(((s.Then.length:Int)==0)&&((s.Else.length:Int)==0))))):=by
     refine(Qp fun _=>Qp fun _=>Qp fun _=>Qp fun _=>Qa _).eq ?_
     unfold inR
     cases zeroC s.Cond with
     |false=>simp
     |true=>
      rw[Bool.eq_iff_iff]
      simp only[Bool.or_eq_true,decide_eq_true_eq,Bool.not_eq_true',Bool.and_eq_false_iff,decide_eq_false_iff_not,bne_iff_ne,ne_eq,beq_eq_false_iff_ne,Bool.not_true,Bool.true_and,Bool.false_eq_true,false_or]
      omega
    cases hb:(inR 1 5 s.By&&(zeroC s.Cond&&(((s.Then.length:Int)==0)&&((s.Else.length:Int)==0))))with
    |true=>rw[hb]at e;exact Ev.bind (Ev.bind e (Qa _)) (Qa _)
    |false=>rw[hb]at e;exact Ev.bind (Ev.bind e (Qa _)) (Qa _)
   |false=>
    simp only[cond_false]
    cases h2:(s.Kind==2)with
    |true=>
     simp only[cond_true]
     have e:Ev (fun n=>((bif (s.By != 0)then some true else(F_ap n s.Cond).bind fun r205=>(bif (r205 != 0)then some true else(bif ((s.Then.length:Int)==0)then some true else(F_f n s.Then).bind fun r208=>(bif (!r208)then some true else(F_f n s.Else).bind fun r210=>some (!r210))))):Option Bool)) (!((s.By==0)&&(vaC s.Cond&&(decide (0<(s.Then.length:Int))&&(vaSs s.Then&&vaSs s.Else))))):=by
      have i1:=ih (sZs s.Then) (by omega) s.Then (d+1) (Nat.le_refl _) wt1 wt2 mt (by omega)
      have i2:=ih (sZs s.Else) (by omega) s.Else (d+1) (Nat.le_refl _) we1 we2 me (by omega)
      have j2:Ev (fun n=>(F_f n s.Else).bind fun r210=>some (!r210)) (!vaSs s.Else):=Ev.bind i2 (Qa _)
      have j1:Ev (fun n=>(F_f n s.Then).bind fun r208=>(bif (!r208)then some true else(F_f n s.Else).bind fun r210=>some (!r210))) (!vaSs s.Then|| !vaSs s.Else):=Ev.bind i1 (Qp fun _=>j2)
      refine(Qp fun _=>Ev.bind (QgY s.Cond wc hcond.1 hcond.2) (Qp fun _=>Qp fun _=>j1)).eq ?_
      have e1:((bif vaC s.Cond then(0:Int)else 71) != 0)= !vaC s.Cond:=by cases vaC s.Cond<;>rfl
      have e2:((s.Then.length:Int)==0)= !decide (0<(s.Then.length:Int)):=by
       rw[Bool.eq_iff_iff];simp
      rw[e1,e2]
      simp only[Bool.not_and,bne]
     cases hb:((s.By==0)&&(vaC s.Cond&&(decide (0<(s.Then.length:Int))&&(vaSs s.Then&&vaSs s.Else))))with
     |true=>rw[hb]at e;exact Ev.bind (Ev.bind e (Qa _)) (Qa _)
     |false=>rw[hb]at e;exact Ev.bind (Ev.bind e (Qa _)) (Qa _)
    |false=>exact Ev.bind (Qa _) (Qa _)
  ·unfold F_gq
   simp only[Qaj,cond_false]
   exact Qa _
 refine Ev.bind loop ?_
 cases l.all vaS<;>exact Qa _
theorem QgX(l:List Step)(hl:l.length<=1048576)(hw:∀x∈l,Step.wf x):Ev (fun n=>F_cx n l) (tiesE l):=by
 unfold F_cx
 obtain⟨a,b,p1,p2,p3,_,_,p6,p7⟩:=QhE _ l 0 (Nat.le_refl _) (by omega) hl hw
 refine Ev.bind p1 ?_
 have hg:goodT l=true↔goodL 0 l:=by
  unfold goodT goodL
  simp
 unfold tiesE
 cases hgt:goodT l with
 |false=>
  have:=p7 (fun h=>by rw[hg.2 h]at hgt;cases hgt)
  have e:(bif decide (64<a)then some true else some (decide (256<b)))=some true:=by
   rw[Qcp]
   rcases this with h|h
   ·rw[QO h];rfl
   ·rw[QO h];simp
  exact Ev.bind (Ev.const e) (Qa _)
 |true=>
  have hgl:=hg.1 hgt
  obtain⟨k1,k2⟩:=p6 hgl
  have h1:=hgl.2.1
  have h2:=hgl.2.2
  have e:(bif decide (64<a)then some true else some (decide (256<b)))=some false:=by
   rw[Qcp,QS (show¬64<a by omega),QS (show¬256<b by omega)];rfl
  refine Ev.bind (Ev.const e) (Yi ?_)
  have e2:((l.length:Int)==0)=l.isEmpty:=by
   cases l<;>simp
   omega
  rw[e2]
  refine Ev.bind (Qp fun _=>Ev.bind (Qge _ l 0 (Nat.le_refl _) hl hw hgl.1 h2) (Qa _)) ?_
  simp only[cond_true]
  cases(l.isEmpty|| !vaSs l)<;>exact Qa _
mutual
def hP:Part->Nat
 |⟨_,_,ps⟩=>bif ps.isEmpty then 0 else 1+hPs ps
def hPs:List Part->Nat
 |[]=>0
 |p::r=>max (hP p) (hPs r)
end
theorem QkT(p:Part):hP p=bif p.Parts.isEmpty then 0 else 1+hPs p.Parts:=by cases p;rfl
theorem Qhz{p:Part}:∀{l:List Part},p∈l->hP p<=hPs l
 |q::r,h=>by
  simp only[hPs]
  rcases List.mem_cons.1 h with rfl|h
  ·omega
  ·have:=Qhz h;omega
theorem QfY{α:Type}(l:List α):((l.length:Int)==0)=l.isEmpty:=by
 cases l<;>simp
 omega
theorem QaG:∀l:List Part,l.length<=szPs l
 |[]=>Nat.le_refl _
 |p::r=>by have:=QaG r;rw[szPs,YF,List.length_cons];omega
theorem Qc7:∀(m:Nat) (l:List Part) (k:Nat),szPs l<=m->k<=17->l.length<=1048576->(∀x∈l,Part.wf x)->Ev (fun n=>F_m n l (k:Int)) ((min (hPs l) k:Nat):Int):=by
 intro m
 induction m using Nat.strongRecOn with
 |_ m ih=>
 intro l k hm hk hl hw
 refine YA ?_
 show Ev (fun n=>B_m (F_m n) n l (k:Int)) _
 unfold B_m
 have loop:∀(r:List Part) (i:Nat) (a:Nat),l.drop i=r->i<=l.length->a<=k->EvI (fun n=>F_ch n l (k:Int) (F_m n)) ((a:Int),(i:Int)) ((max a (min (hPs r) k):Nat):Int):=by
  intro r
  induction r with
  |nil=>
   intro i a hr hi ha
   refine EvI.done ?_
   unfold F_ch
   simp only[Yu hr hi,cond_false,Option.bind_some]
   refine(Qa _).eq ?_
   simp[hPs]
  |cons p r ihr=>
   intro i a hr hi ha0
   obtain⟨ha,hr'⟩:=QQ (by omega) hr
   obtain⟨w1,w2⟩:=Yr (hw p ha.mem)
   by_cases hk0:0<k
   ·have e1:IntKind.i64.wrap ((k:Int)-1)=((k-1:Nat):Int):=by rw[Ya (by omega) (by omega)];omega
    have hs:=Y9 ha.mem
    rw[YF]at hs
    have step:Ev (fun n=>F_ch n l (k:Int) (F_m n) ((a:Int),(i:Int))) (.cont (((max a (min (hP p) k):Nat):Int),((i+1:Nat):Int))):=by
     unfold F_ch
     simp only[ha.lt,cond_true,QO (show(0:Int)<(k:Int)by omega),Option.bind_some,ha.ix,ha.nx,e1,bne,QfY]
     rw[QkT]
     cases hp:p.Parts.isEmpty with
     |true=>
      simp only[Bool.not_true,cond_false,Option.bind_some,cond_true,Nat.zero_min,Nat.max_zero]
      exact Qa _
     |false=>
      simp only[Bool.not_false,cond_true,cond_false]
      refine Ev.bind (Ev.bind (ih (szPs p.Parts) (by omega) p.Parts (k-1) (Nat.le_refl _) (by omega) w1 w2) (Qa _)) ((Qa _).eq ?_)
      have e2:IntKind.i64.wrap (1+((min (hPs p.Parts) (k-1):Nat):Int))=((1+min (hPs p.Parts) (k-1):Nat):Int):=by rw[Ya (by omega) (by omega)];omega
      rw[e2]
      congr 2
      split<;>omega
    refine(EvI.cont step (ihr (i+1) _ hr' (by have:=ha.lt';omega) (by omega))).eq ?_
    rw[hPs]
    omega
   ·have:k=0:=by omega
    subst this
    refine EvI.done ?_
    unfold F_ch
    simp only[ha.lt,cond_true,QS (show¬(0:Int)<((0:Nat):Int)by omega),Option.bind_some,cond_false]
    have e0:max a (min (hPs (p::r)) 0)=a:=by omega
    rw[e0]
    exact Qa _
 refine Ev.bind ((loop l 0 0 rfl (Nat.zero_le _) (Nat.zero_le _)).ev) ((Qa _).eq ?_)
 omega
theorem Qc8:∀(m:Nat) (l:List Part),szPs l<=m->l.length<=1048576->(∀x∈l,Part.wf x)->Ev (fun n=>F_n n l) ((min (szPs l) 257:Nat):Int):=by
 intro m
 induction m using Nat.strongRecOn with
 |_ m ih=>
 intro l hm hl hw
 refine YA ?_
 show Ev (fun n=>B_n (F_n n) n l) _
 unfold B_n
 have loop:∀(r:List Part) (i:Nat) (a:Nat),l.drop i=r->i<=l.length->a<=1048576->∃b:Nat,EvI (fun n=>F_dk n l (F_n n)) ((a:Int),(i:Int)) (b:Int)/\min b 257=min (a+(szPs r-r.length)) 257:=by
  intro r
  induction r with
  |nil=>
   intro i a hr hi _
   refine⟨a,EvI.done ?_,by simp[szPs]⟩
   unfold F_dk
   simp only[Yu hr hi,cond_false,Option.bind_some]
   exact Qa _
  |cons p r ihr=>
   intro i a hr hi ha0
   obtain⟨ha,hr'⟩:=QQ (by omega) hr
   obtain⟨w1,w2⟩:=Yr (hw p ha.mem)
   have hs:=Y9 ha.mem
   rw[YF]at hs
   have hr2:=QaG r
   by_cases hlim:a<=256
   ·obtain⟨b,p1,p2⟩:=ihr (i+1) (a+min (szPs p.Parts) 257) hr' (by have:=ha.lt';omega) (by omega)
    refine⟨b,EvI.cont ?_ p1,?_⟩
    ·unfold F_dk
     simp only[ha.lt,cond_true,QO (show(a:Int)<=256 by omega),Option.bind_some,ha.ix,ha.nx]
     refine Ev.bind (ih (szPs p.Parts) (by omega) p.Parts (Nat.le_refl _) w1 w2) ((Qa _).eq ?_)
     rw[Ya (by omega) (by omega)]
     congr 2
     all_goals omega
    ·rw[p2,szPs,YF,List.length_cons]
     omega
   ·refine⟨a,EvI.done ?_,by omega⟩
    unfold F_dk
    simp only[ha.lt,cond_true,QS (show¬(a:Int)<=256 by omega),Option.bind_some,cond_false]
    exact Qa _
 obtain⟨b,p1,p2⟩:=loop l 0 l.length rfl (Nat.zero_le _) hl
 refine Ev.bind p1.ev ((Qa _).eq ?_)
 have:=QaG l
 split<;>omega
theorem Qjt:∀(m:Nat) (l:List Part) (k:Nat),szPs l<=m->hPs l<=k->k<=17->szPs l<=256->(∀x∈l,Part.wf x)->Ev (fun n=>F_q n l (k:Int)) ((hPs l:Int),(szPs l:Int)):=by
 intro m
 induction m using Nat.strongRecOn with
 |_ m ih=>
 intro l k hm hk hk17 hs256 hw
 have hlen:=QaG l
 refine YA ?_
 show Ev (fun n=>B_q (F_q n) n l (k:Int)) _
 unfold B_q
 have loop:∀(r:List Part) (i:Nat) (a b:Nat),l.drop i=r->i<=l.length->a<=17->b+(szPs r-r.length)<=256->EvI (fun n=>F_ec n l (k:Int) (F_q n)) ((a:Int),(b:Int),(i:Int)) (((max a (hPs r):Nat):Int),((b+(szPs r-r.length):Nat):Int)):=by
  intro r
  induction r with
  |nil=>
   intro i a b hr hi _ _
   refine EvI.done ?_
   unfold F_ec
   simp only[Yu hr hi,cond_false,Option.bind_some]
   refine(Qa _).eq ?_
   simp[hPs,szPs]
  |cons p r ihr=>
   intro i a b hr hi ha0 hb0
   obtain⟨ha,hr'⟩:=QQ (by omega) hr
   obtain⟨w1,w2⟩:=Yr (hw p ha.mem)
   have hs:=Y9 ha.mem
   have hh:=Qhz ha.mem
   rw[YF]at hs
   have hr2:=QaG r
   rw[szPs,YF,List.length_cons]at hb0
   have step:Ev (fun n=>F_ec n l (k:Int) (F_q n) ((a:Int),(b:Int),(i:Int))) (.cont (((max a (hP p):Nat):Int),((b+szPs p.Parts:Nat):Int),((i+1:Nat):Int))):=by
    unfold F_ec
    simp only[ha.lt,cond_true,ha.ix,Option.bind_some,ha.nx,QfY]
    rw[QkT]at hh⊢
    cases hp:p.Parts.isEmpty with
    |true=>
     have e0:p.Parts=[]:=by simpa using hp
     simp only[cond_true,Option.bind_some]
     rw[e0]
     simp only[szPs,Nat.add_zero,Nat.max_zero]
     exact Qa _
    |false=>
     rw[hp]at hh
     simp only[cond_false]at hh⊢
     have hk0:0<k:=by omega
     have e1:IntKind.i64.wrap ((k:Int)-1)=((k-1:Nat):Int):=by rw[Ya (by omega) (by omega)];omega
     have e2:((k:Int)==0)=false:=beq_false_of_ne (by omega)
     rw[e2,QS (show¬(256:Int)<(b:Int)by omega),e1]
     simp only[cond_false,Option.bind_some]
     refine Ev.bind (Ev.bind (ih (szPs p.Parts) (by omega) p.Parts (k-1) (Nat.le_refl _) (by omega) (by omega) (by omega) w2) (Qa _)) ((Qa _).eq ?_)
     have e3:IntKind.i64.wrap ((hPs p.Parts:Int)+1)=((hPs p.Parts+1:Nat):Int):=YJ (by omega)
     have e4:IntKind.i64.wrap ((b:Int)+(szPs p.Parts:Int))=((b+szPs p.Parts:Nat):Int):=by rw[Ya (by omega) (by omega)];omega
     simp only[e3,e4]
     congr 2
     split<;>omega
   refine(EvI.cont step (ihr (i+1) _ _ hr' (by have:=ha.lt';omega) (by omega) (by omega))).eq ?_
   rw[hPs,szPs,YF,List.length_cons]
   congr 1<;>omega
 refine Ev.bind ((loop l 0 0 l.length rfl (Nat.zero_le _) (by omega) (by omega)).ev) ((Qa _).eq ?_)
 congr 1<;>omega
def repS:Nat->List Int->List Int->List Int
 |0,out,_=>out
 |k+1,out,lap=>if 256<out.length then out else repS k (out++lap) lap
mutual
def lapS:Part->List Int
 |⟨m,laps,ps⟩=>bif decide (0<laps)then expS [] ps else[m]
def expS:List Int->List Part->List Int
 |out,[]=>out
 |out,p::r=>expS (repS (p.Laps.toNat+(bif decide (0<p.Laps)then 0 else 1)) out (lapS p)) r
end
theorem QbE(p:Part):lapS p=bif decide (0<p.Laps)then expS [] p.Parts else[p.Mat]:=by cases p;rfl
theorem Qcc{k:Nat}{out lap:List Int}(h:256<out.length):repS k out lap=out:=by
 cases k with
 |zero=>rfl
 |succ k=>rw[repS,if_pos h]
theorem Qd2:∀(l:List Part) {out:List Int},256<out.length->expS out l=out
 |[],out,h=>by rw[expS]
 |p::r,out,h=>by rw[expS,Qcc h];exact Qd2 r h
theorem Qcb:∀(k:Nat) (out lap:List Int),(repS k out lap).length<=max out.length (256+lap.length)
 |0,out,lap=>by rw[repS];omega
 |k+1,out,lap=>by
  rw[repS]
  split
  ·omega
  ·have:=Qcb k (out++lap) lap
   rw[List.length_append]at this
   omega
theorem Qd1:∀(m:Nat) (l:List Part) (out:List Int),szPs l<=m->(expS out l).length<=max out.length (256+257*szPs l):=by
 intro m
 induction m using Nat.strongRecOn with
 |_ m ih=>
 intro l
 have lapL:∀p∈l,szPs l<=m->(lapS p).length<=257*szP p:=by
  intro p hp hm
  have hs:=Y9 hp
  rw[QbE,YF]at*
  cases decide (0<p.Laps)with
  |true=>
   have:=ih (szPs p.Parts) (by omega) p.Parts [] (Nat.le_refl _)
   simp only[cond_true,List.length_nil]at this⊢
   omega
  |false=>simp;omega
 have gen:∀(r:List Part) (out:List Int),(∀p∈r,(lapS p).length<=257*szP p)->(expS out r).length<=max out.length (256+257*szPs r):=by
  intro r
  induction r with
  |nil=>intro out _;rw[expS];omega
  |cons p r ihr=>
   intro out hl
   rw[expS,szPs]
   have h1:=ihr (repS (p.Laps.toNat+(bif decide (0<p.Laps)then 0 else 1)) out (lapS p)) fun q hq=>hl q (by simp[hq])
   have h2:=Qcb (p.Laps.toNat+(bif decide (0<p.Laps)then 0 else 1)) out (lapS p)
   have h3:=hl p (by simp)
   omega
 intro out hm
 exact gen l out fun p hp=>lapL p hp hm
theorem Qf0(p:Part):(lapS p).length<=257*szP p:=by
 rw[QbE,YF]
 cases decide (0<p.Laps)with
 |true=>
  have:=Qd1 _ p.Parts [] (Nat.le_refl _)
  simp only[cond_true,List.length_nil]at this⊢
  omega
 |false=>simp;omega
theorem Qia(kk:Int):∀(m:Nat) (l:List Part),szPs l<=m->szPs l<=256->l.length<=1048576->(∀x∈l,Part.wf x)->partsS kk l=true->Ev (fun n=>F_p n l) (expS [] l):=by
 intro m
 induction m using Nat.strongRecOn with
 |_ m ih=>
 intro l hm hs256 hl hw hv
 rw[QaX,List.all_eq_true]at hv
 refine YA ?_
 show Ev (fun n=>B_p (F_p n) n l) _
 unfold B_p
 have inner:∀(p:Part) (lap:List Int) (hp:p.Laps=0\/0<p.Laps/\p.Laps<=64) (hlap:lap.length<=100000) (j:Nat) (k:Nat) (out:List Int),j+k=p.Laps.toNat+(bif decide (0<p.Laps)then 0 else 1)->out.length<=200000->
   ∃res:Ctl (List Int) (Ctl ((List Int)×Int) (Ctl (List Int) (List Int))),EvI (fun n=>F_fk n p lap) (out,(j:Int)) res/\
    (res=.cont (repS k out lap)\/(256<(repS k out lap).length/\res=.done (.done (.done (repS k out lap))))):=by
  intro p lap hp hlap j k
  induction k generalizing j with
  |zero=>
   intro out hj _
   refine⟨_,EvI.done (b:=.cont out) ?_,.inl rfl⟩
   unfold F_fk
   have:¬((j:Int)<if p.Laps<1 then 1 else p.Laps):=by
    rcases hp with h|⟨h,h'⟩
    ·rw[h]at hj⊢;simp at hj⊢;omega
    ·rw[QO h]at hj;simp at hj;rw[if_neg (by omega)];omega
   rw[QS this]
   exact Qa _
  |succ k ihk=>
   intro out hj hout
   have hlt:((j:Int)<if p.Laps<1 then 1 else p.Laps):=by
    rcases hp with h|⟨h,h'⟩
    ·rw[h]at hj⊢;simp at hj⊢;omega
    ·rw[QO h]at hj;simp at hj;rw[if_neg (by omega)];omega
   have hj64:j<=64:=by
    rcases hp with h|⟨h,h'⟩
    ·rw[h]at hj;simp at hj;omega
    ·rw[QO h]at hj;simp at hj;omega
   by_cases hb:256<out.length
   ·refine⟨_,EvI.done (b:=.done (.done (.done out))) ?_,.inr ⟨by rw[Qcc hb];exact hb,by rw[Qcc hb]⟩⟩
    unfold F_fk
    rw[QO hlt,QO (show(256:Int)<(out.length:Int)by omega)]
    exact Qa _
   ·obtain⟨res,p1,p2⟩:=ihk (j+1) (out++lap) (by omega) (by rw[List.length_append];omega)
    refine⟨res,EvI.cont ?_ p1,by rw[repS,if_neg hb];exact p2⟩
    unfold F_fk
    rw[QO hlt,QS (show¬(256:Int)<(out.length:Int)by omega)]
    refine QhP (Yi (Je (Qcq out lap (by omega)) ?_))
    rw[YJ (by omega)]
    exact Qa _
 have loop:∀(r:List Part) (i:Nat) (out:List Int),l.drop i=r->i<=l.length->out.length<=100000->
   ∃res:Ctl (List Int) (List Int),EvI (fun n=>F_ei n l (F_p n)) (out,(i:Int)) res/\(res=.cont (expS out r)\/res=.done (expS out r)):=by
  intro r
  induction r with
  |nil=>
   intro i out hr hi _
   refine⟨.cont out,EvI.done ?_,.inl (by rw[expS])⟩
   unfold F_ei
   simp only[Yu hr hi,cond_false]
   exact Qa _
  |cons p r ihr=>
   intro i out hr hi hout
   obtain⟨ha,hr'⟩:=QQ (by omega) hr
   have hlt:=ha.lt'
   have hs:=Y9 ha.mem
   obtain⟨w1,w2⟩:=Yr (hw p ha.mem)
   have hp:=hv p ha.mem
   rw[Qbt]at hp
   have hlaps:p.Laps=0\/0<p.Laps/\p.Laps<=64:=by
    cases h0:(p.Laps==0)with
    |true=>exact .inl (by simpa using h0)
    |false=>
     rw[h0]at hp
     simp only[cond_false,inR,Bool.and_eq_true,decide_eq_true_eq]at hp
     exact .inr ⟨by omega,by omega⟩
   have hll:=Qf0 p
   have hb:Ev (fun n=>((bif decide (0<p.Laps)then(F_p n p.Parts).bind fun r62=>some r62 else some [p.Mat]):Option (List Int))) (lapS p):=by
    rw[QbE]
    refine Qbl (fun h=>?_) (fun _=>Qa _)
    rw[YF]at hs
    refine Ev.bind (ih (szPs p.Parts) (by omega) p.Parts (Nat.le_refl _) (by omega) w1 w2 ?_) (Qa _)
    have:(p.Laps==0)=false:=by
     simp only[decide_eq_true_eq]at h
     exact beq_false_of_ne (by omega)
    rw[this]at hp
    simp only[cond_false,Bool.and_eq_true]at hp
    exact hp.2.2.2
   obtain⟨res,p1,p2⟩:=inner p (lapS p) hlaps (by omega) 0 _ out (Nat.zero_add _) (by omega)
   rw[expS]
   rcases p2 with rfl|⟨hbig,rfl⟩
   ·obtain⟨res2,q1,q2⟩:=ihr (i+1) (repS (p.Laps.toNat+(bif decide (0<p.Laps)then 0 else 1)) out (lapS p)) hr' (by omega) (by
     have:=Qcb (p.Laps.toNat+(bif decide (0<p.Laps)then 0 else 1)) out (lapS p)
     omega)
    refine⟨res2,EvI.cont ?_ q1,q2⟩
    unfold F_ei
    simp only[ha.lt,cond_true,ha.ix,Option.bind_some,ha.nx]
    exact Ev.bind hb (Ev.bind p1.ev (Qa _))
   ·refine⟨.done (repS (p.Laps.toNat+(bif decide (0<p.Laps)then 0 else 1)) out (lapS p)),EvI.done ?_,.inr (by rw[Qd2 r hbig])⟩
    unfold F_ei
    simp only[ha.lt,cond_true,ha.ix,Option.bind_some,ha.nx]
    exact Ev.bind hb (Ev.bind p1.ev (Qa _))
 obtain⟨res,p1,p2⟩:=loop l 0 [] rfl (Nat.zero_le _) (by simp)
 rcases p2 with rfl|rfl
 ·exact Ev.bind p1.ev (Qa _)
 ·exact Ev.bind p1.ev (Qa _)
theorem Qfn(kk:Int):∀(m:Nat) (l:List Part),szPs l<=m->szPs l<=256->l.length<=1048576->(∀x∈l,Part.wf x)->partsS kk l=true->Ev (fun n=>F_s n l) (expS [] l):=by
 intro m
 induction m using Nat.strongRecOn with
 |_ m ih=>
 intro l hm hs256 hl hw hv
 rw[QaX,List.all_eq_true]at hv
 refine YA ?_
 show Ev (fun n=>B_s (F_s n) n l) _
 unfold B_s
 have inner:∀(p:Part) (i:Nat) (ha:At l i p) (o0:List Int) (lap:List Int) (hp:0<p.Laps/\p.Laps<=64) (hlap:lap.length<=100000) (j:Nat) (k:Nat) (out:List Int),j+k=p.Laps.toNat->out.length<=200000->
   EvI (fun n=>F_ej n l (o0,(i:Int)) lap) (out,(j:Int)) (repS k out lap):=by
  intro p i ha o0 lap hp hlap j k
  induction k generalizing j with
  |zero=>
   intro out hj _
   refine EvI.done ?_
   unfold F_ej
   simp only[ha.ix,Option.bind_some]
   rw[QS (show¬(j:Int)<p.Laps by omega)]
   exact Qa _
  |succ k ihk=>
   intro out hj hout
   by_cases hb:256<out.length
   ·refine EvI.done ?_
    rw[Qcc hb]
    unfold F_ej
    simp only[ha.ix,Option.bind_some]
    rw[QO (show(j:Int)<p.Laps by omega),QS (show¬(out.length:Int)<=256 by omega)]
    exact Qa _
   ·rw[repS,if_neg hb]
    refine EvI.cont ?_ (ihk (j+1) (out++lap) (by omega) (by rw[List.length_append];omega))
    unfold F_ej
    simp only[ha.ix,Option.bind_some]
    rw[QO (show(j:Int)<p.Laps by omega),QO (show(out.length:Int)<=256 by omega)]
    simp only[cond_true,Option.bind_some]
    refine Je (Qcq out lap (by omega)) ?_
    rw[YJ (by omega)]
    exact Qa _
 have loop:∀(r:List Part) (i:Nat) (out:List Int),l.drop i=r->i<=l.length->out.length<=100000->
   EvI (fun n=>F_ex n l (F_s n)) (out,(i:Int)) (expS out r):=by
  intro r
  induction r with
  |nil=>
   intro i out hr hi _
   refine EvI.done ?_
   rw[expS]
   unfold F_ex
   simp only[Yu hr hi,cond_false,Option.bind_some]
   exact Qa _
  |cons p r ihr=>
   intro i out hr hi hout
   obtain⟨ha,hr'⟩:=QQ (by omega) hr
   have hlt:=ha.lt'
   have hs:=Y9 ha.mem
   by_cases hb:256<out.length
   ·rw[Qd2 _ hb]
    refine EvI.done ?_
    unfold F_ex
    simp only[ha.lt,cond_true,QS (show¬(out.length:Int)<=256 by omega),Option.bind_some,cond_false]
    exact Qa _
   obtain⟨w1,w2⟩:=Yr (hw p ha.mem)
   have hp:=hv p ha.mem
   rw[Qbt]at hp
   have hll:=Qf0 p
   rw[expS]
   refine EvI.cont ?_ (ihr (i+1) _ hr' (by omega) (by
    have:=Qcb (p.Laps.toNat+(bif decide (0<p.Laps)then 0 else 1)) out (lapS p)
    omega))
   unfold F_ex
   simp only[ha.lt,cond_true,QO (show(out.length:Int)<=256 by omega),Option.bind_some,ha.ix,ha.nx]
   cases h0:(p.Laps==0)with
   |true=>
    have e0:p.Laps=0:=by simpa using h0
    simp only[cond_true]
    refine Ev.bind (Je (Qcq out [p.Mat] (by simp;omega)) (Qa _)) ((Qa _).eq ?_)
    rw[QbE,e0]
    simp[repS,hb]
   |false=>
    rw[h0]at hp
    simp only[cond_false,Bool.and_eq_true,inR,decide_eq_true_eq]at hp
    have hlaps:0<p.Laps/\p.Laps<=64:=⟨by omega,by omega⟩
    simp only[cond_false]
    rw[YF]at hs
    refine Ev.bind (Ev.bind (ih (szPs p.Parts) (by omega) p.Parts (Nat.le_refl _) (by omega) w1 w2 hp.2.2.2) (Ev.bind ?_ (Qa _))) (Qa _)
    have hL:=QbE p
    rw[QO hlaps.1,cond_true]at hL
    have:=(inner p i ha out (expS [] p.Parts) hlaps (by rw[<- hL];rw[YF]at hll;omega) 0 p.Laps.toNat out (by omega) (by omega)).ev
    rw[<- hL]at this⊢
    rw[QO hlaps.1]
    exact this
 exact Ev.bind (loop l 0 [] rfl (Nat.zero_le _) (by simp)).ev (Qa _)
def kindAt(c:Course)(m:Int):Int:=((c.Mats[m.toNat]?).map (·.Kind)).getD 0
def hasLeg(c:Course)(a b:Int):Bool:=c.Legs.any fun l=>(l.From==a)&&(l.To==b)
def rokS(c:Course)(len:Nat):Nat->Int->List Int->Bool
 |_,_,[]=>true
 |i,prev,m::r=>((kindAt c m==1)==decide (i=0))&&(((kindAt c m==3)==decide (i+1=len))&&((decide (i=0)||hasLeg c prev m)&&rokS c len (i+1) m r))
def routeR(c:Course)(d:Distance)(r:List Int):Bool:=
 (decide (2<=r.length)&&decide (r.length<=256))&&(rokS c r.length 0 0 r&&((bif decide (0<=d.Extra)then !((r.count d.Extra:Int)==0)&&((kindAt c d.Extra==2)&&hasLeg c d.Extra d.Extra)else true)&&d.Cutoffs.all fun x=>decide (x.Lap<=(r.count x.Mat:Int))))
def routeS(c:Course)(d:Distance):Bool:=routeR c d (expS [] d.Route)
def cntM(l:List Int):List (Int×Int):=l.foldl (fun m k=>Yq m k (QW m k 0+1)) []
theorem Qif(l:List Int)(k:Int):cntM (l++[k])=Yq (cntM l) k (QW (cntM l) k 0+1):=by unfold cntM;rw[List.foldl_append];rfl
theorem Qeb(l:List Int)(k:Int):QW (cntM l) k 0=(l.count k:Int):=by
 have gen:∀(l:List Int) (m:List (Int×Int)),QW (l.foldl (fun m k=>Yq m k (QW m k 0+1)) m) k 0=QW m k 0+(l.count k:Int):=by
  intro l
  induction l with
  |nil=>intro m;simp
  |cons x l ih=>
   intro m
   rw[List.foldl_cons,ih,QdJ,List.count_cons]
   by_cases h:k=x
   ·subst h;simp;omega
   ·have:(x==k)=false:=beq_false_of_ne fun e=>h e.symm
    simp[h,this]
 have:=gen l []
 simpa[cntM,Qh1]using this
theorem QgP(kk:Int):∀(m:Nat) (l:List Part) (out:List Int),szPs l<=m->partsS kk l=true->(∀x∈out,0<=x/\x<=kk)->∀x∈expS out l,0<=x/\x<=kk:=by
 intro m
 induction m using Nat.strongRecOn with
 |_ m ih=>
 intro l
 have rep:∀(k:Nat) (out lap:List Int),(∀x∈out,0<=x/\x<=kk)->(∀x∈lap,0<=x/\x<=kk)->∀x∈repS k out lap,0<=x/\x<=kk:=by
  intro k
  induction k with
  |zero=>intro out lap h1 _;rw[repS];exact h1
  |succ k ihk=>
   intro out lap h1 h2
   rw[repS]
   split
   ·exact h1
   ·refine ihk _ _ ?_ h2
    intro x hx
    rcases List.mem_append.1 hx with h|h
    ·exact h1 x h
    ·exact h2 x h
 have gen:∀(r:List Part) (out:List Int),szPs r<=m->partsS kk r=true->(∀x∈out,0<=x/\x<=kk)->∀x∈expS out r,0<=x/\x<=kk:=by
  intro r
  induction r with
  |nil=>intro out _ _ h;rw[expS];exact h
  |cons p r ihr=>
   intro out hm hv h
   rw[szPs,YF]at hm
   rw[partsS,Bool.and_eq_true]at hv
   obtain⟨hp,hr⟩:=hv
   rw[expS]
   refine ihr _ (by omega) hr (rep _ _ _ h ?_)
   rw[QbE]
   rw[Qbt]at hp
   cases h0:(p.Laps==0)with
   |true=>
    have e0:p.Laps=0:=by simpa using h0
    rw[h0,cond_true,Bool.and_eq_true]at hp
    have:=hp.1
    unfold inR at this
    simp only[Bool.and_eq_true,decide_eq_true_eq]at this
    rw[e0]
    intro x hx
    simp at hx
    subst hx
    exact this
   |false=>
    rw[h0]at hp
    simp only[cond_false,Bool.and_eq_true,inR,decide_eq_true_eq]at hp
    rw[QO (show 0<p.Laps by omega),cond_true]
    exact ih (szPs p.Parts) (by omega) p.Parts [] (Nat.le_refl _) hp.2.2.2 (by simp)
 exact fun out hm hv h=>gen l out hm hv h
theorem Qci{c:Course}{m:Int}(h0:0<=m)(h1:m<=(c.Mats.length:Int)-1):∃x:Mat,idx c.Mats m=some x/\x.Kind=kindAt c m:=by
 obtain⟨k,rfl⟩:∃k:Nat,m=(k:Int):=⟨m.toNat,by omega⟩
 have hlt:k<c.Mats.length:=by omega
 refine⟨c.Mats[k],QaP (List.getElem?_eq_getElem hlt),?_⟩
 unfold kindAt
 rw[Int.toNat_natCast,List.getElem?_eq_getElem hlt];rfl
theorem QfZ(c:Course)(a b:Int):QW (Q3 legKey true c.Legs) {from_:=a,to_:=b} false=hasLeg c a b:=by
 rw[Qc2]
 unfold hasLeg
 by_cases h:({from_:=a,to_:=b}:typing_ends)∈c.Legs.map legKey
 ·rw[if_pos h]
  obtain⟨l,hl,e⟩:=List.mem_map.1 h
  unfold legKey at e
  obtain⟨e1,e2⟩:=ends_eq.1 e
  exact(List.any_eq_true.2 ⟨l,hl,by simp[e1,e2]⟩).symm
 ·rw[if_neg h]
  symm
  rw[Bool.eq_false_iff]
  intro q
  obtain⟨l,hl,e⟩:=List.any_eq_true.1 q
  simp only[Bool.and_eq_true,beq_iff_eq]at e
  exact h (List.mem_map.2 ⟨l,hl,by unfold legKey;rw[e.1,e.2]⟩)
theorem Qjw(c:Course)(w:CourseOk c)(a b:Int):∃v:Int,Ev (fun n=>F_z n c a b) v/\decide (v<0)= !hasLeg c a b:=by
 unfold F_z
 have hl:c.Legs.length<=4611686018427387904:=by have:=w.legs;omega
 have step:∀i x,At c.Legs i x->Ev (fun n:Nat=>F_dh n c a b (i:Int)) (bif (x.From==a)&&(x.To==b)then .done (.done (i:Int))else .cont ((i+1:Nat):Int)):=by
  intro i x ha
  unfold F_dh
  simp only[ha.lt,cond_true,ha.ix,Option.bind_some,ha.nx]
  refine Ev.bind (Qf fun _=>Qa _) ?_
  cases((x.From==a)&&(x.To==b))<;>exact Qa _
 have loop:∀(r:List Leg) (i:Nat),c.Legs.drop i=r->i<=c.Legs.length->∃res:Ctl Unit Int,EvI (fun n=>F_dh n c a b) (i:Int) res/\((r.any fun l=>(l.From==a)&&(l.To==b))=true->∃j:Nat,res=.done (j:Int))/\((r.any fun l=>(l.From==a)&&(l.To==b))=false->res=.cont ()):=by
  intro r
  induction r with
  |nil=>
   intro i hr hi
   refine⟨.cont (),EvI.done ?_,fun h=>(by simp at h),fun _=>rfl⟩
   unfold F_dh
   simp only[Yu hr hi,cond_false]
   exact Qa _
  |cons x r ih=>
   intro i hr hi
   obtain⟨ha,hr'⟩:=QQ hl hr
   have s:=step i x ha
   rw[List.any_cons]
   cases h:((x.From==a)&&(x.To==b))with
   |true=>
    rw[h]at s
    exact⟨.done (i:Int),EvI.done s,fun _=>⟨i,rfl⟩,fun h=>by simp at h⟩
   |false=>
    rw[h]at s
    obtain⟨res,p1,p2⟩:=ih (i+1) hr' (by have:=ha.lt';omega)
    exact⟨res,EvI.cont s p1,by simpa using p2⟩
 obtain⟨res,p1,p2,p3⟩:=loop c.Legs 0 rfl (Nat.zero_le _)
 unfold hasLeg
 cases h:c.Legs.any fun l=>(l.From==a)&&(l.To==b)with
 |true=>
  obtain⟨j,rfl⟩:=p2 h
  exact⟨(j:Int),Ev.bind p1.ev (Qa _),by simp⟩
 |false=>
  obtain rfl:=p3 h
  exact⟨-1,Ev.bind p1.ev (Qa _),by simp⟩
theorem Qgj(l:List Int)(k:Int)(hl:l.length<=1048576):Ev (fun n=>F_ag n l k) (l.count k:Int):=by
 unfold F_ag
 have loop:∀(r:List Int) (i:Nat) (a:Nat),l.drop i=r->i<=l.length->a<=i->EvI (fun n=>F_fe n l k) ((a:Int),(i:Int)) ((a+r.count k:Nat):Int):=by
  intro r
  induction r with
  |nil=>
   intro i a hr hi _
   refine EvI.done ?_
   unfold F_fe
   simp only[Yu hr hi,cond_false]
   exact Qa _
  |cons x r ih=>
   intro i a hr hi hai
   obtain⟨ha,hr'⟩:=QQ (by omega) hr
   have hlt:=ha.lt'
   have e1:IntKind.i64.wrap ((a:Int)+1)=((a+1:Nat):Int):=YJ (by omega)
   rw[List.count_cons]
   cases h:(x==k)with
   |true=>
    refine(EvI.cont ?_ (ih (i+1) (a+1) hr' (by omega) (by omega))).eq ?_
    ·unfold F_fe
     simp only[ha.lt,cond_true,ha.ix,Option.bind_some,ha.nx,h,e1]
     exact Qa _
    ·simp;omega
   |false=>
    refine(EvI.cont ?_ (ih (i+1) a hr' (by omega) (by omega))).eq ?_
    ·unfold F_fe
     simp only[ha.lt,cond_true,ha.ix,Option.bind_some,ha.nx,h,cond_false]
     exact Qa _
    ·simp
 exact Ev.bind ((loop l 0 0 rfl (Nat.zero_le _) (Nat.le_refl _)).ev) ((Qa _).eq (by omega))
structure NumOk (c:Course):Prop where
 kinds:∀m∈c.Mats,1<=m.Kind/\m.Kind<=3
 dist:∀d∈c.Distances,-1<=d.Extra/\d.Extra<=(c.Mats.length:Int)-1/\partsS ((c.Mats.length:Int)-1) d.Route=true
theorem Qgv{c:Course}(h:numbersS c=true):NumOk c:=by
 unfold numbersS at h
 simp only[Bool.and_eq_true,List.all_eq_true]at h
 refine⟨fun m hm=>?_,fun d hd=>?_⟩
 ·have:=h.1 m hm
  unfold inR at this
  simpa using this
 ·have:=h.2.2.2.1 d hd
  unfold distS at this
  simp only[Bool.and_eq_true]at this
  obtain⟨_,h2,h3,_⟩:=this
  unfold inR at h2
  simp only[Bool.and_eq_true,decide_eq_true_eq]at h2
  exact⟨h2.1,h2.2,h3⟩
theorem Qh2{c:Course}(q:NumOk c){m:Int}(h0:0<=m)(h1:m<=(c.Mats.length:Int)-1):1<=kindAt c m/\kindAt c m<=3:=by
 obtain⟨x,h2,h3⟩:=Qci h0 h1
 have:x∈c.Mats:=by
  obtain⟨_,e⟩:=Qap h2
  exact List.mem_of_getElem? e
 rw[<- h3]
 exact q.kinds x this
theorem Qjq{c:Course}(q:NumOk c){d:Distance}(hd:d∈c.Distances):∀x∈expS [] d.Route,0<=x/\x<=(c.Mats.length:Int)-1:=
 QgP _ _ d.Route [] (Nat.le_refl _) (q.dist d hd).2.2 (by simp)
theorem QfT(c:Course)(len i:Nat)(prev m:Int)(r:List Int):rokS c len i prev (m::r)=(((kindAt c m==1)==decide (i=0))&&(((kindAt c m==3)==decide (i+1=len))&&((decide (i=0)||hasLeg c prev m)&&rokS c len (i+1) m r))):=rfl
theorem Qhw(i:Nat):((i:Int)==0)=decide (i=0):=by
 rw[Bool.eq_iff_iff];simp
theorem Qew(c:Course)(r:List Int)(hr2:2<=r.length)(hr:r.length<=256)(hm:∀x∈r,0<=x/\x<=(c.Mats.length:Int)-1):
  Ev (fun n=>iter (F_cs n c (Q3 legKey true c.Legs) r) n ([],0)) (bif rokS c r.length 0 0 r then .cont (cntM r)else .done false):=by
 have loop:∀(t:List Int) (i:Nat) (prev:Int),r.drop i=t->i<=r.length->(0<i->At r (i-1) prev)->EvI (fun n=>F_cs n c (Q3 legKey true c.Legs) r) (cntM (r.take i),(i:Int)) (bif rokS c r.length i prev t then .cont (cntM r)else .done false):=by
  intro t
  induction t with
  |nil=>
   intro i prev ht hi _
   refine EvI.done ?_
   unfold F_cs
   simp only[Yu ht hi,cond_false,rokS,cond_true]
   have:r.length<=i:=by simpa using ht
   rw[List.take_of_length_le this]
   exact Qa _
  |cons m t ih=>
   intro i prev ht hi hp
   obtain⟨ha,ht'⟩:=QQ (by omega) ht
   have hlt:=ha.lt'
   obtain⟨h0,h1⟩:=hm m ha.mem
   obtain⟨x,e1,e2⟩:=Qci h0 h1
   have e3:IntKind.i64.wrap ((r.length:Int)-1)=((r.length-1:Nat):Int):=by rw[Ya (by omega) (by omega)];omega
   have e4:((i:Int)==((r.length-1:Nat):Int))=decide (i+1=r.length):=by rw[Bool.eq_iff_iff];simp;omega
   have hc:Ev (fun n:Nat=>((bif ((x.Kind==1) != ((i:Int)==0))then some true else(bif ((x.Kind==3) != ((i:Int)==(IntKind.i64.wrap ((r.length:Int)-1))))then some true else(bif decide (0<(i:Int))then(idx r (IntKind.i64.wrap ((i:Int)-1))).bind fun x57=>(some (QW (Q3 legKey true c.Legs) ({from_:=x57,to_:=m:typing_ends}) false)).bind fun v58=>some (!v58)else some false))):Option Bool))
     (!(((kindAt c m==1)==decide (i=0))&&(((kindAt c m==3)==decide (i+1=r.length))&&(decide (i=0)||hasLeg c prev m)))):=by
    rw[e2,e3,e4,Qhw]
    refine Ev.eq (Qp fun _=>Qp fun _=>Qbl (v:= !hasLeg c prev m) (w:=false) (fun h=>?_) fun _=>Qa _) ?_
    ·have hi0:0<i:=by simpa using h
     have e5:IntKind.i64.wrap ((i:Int)-1)=((i-1:Nat):Int):=by rw[Ya (by omega) (by omega)];omega
     rw[e5,(hp hi0).ix]
     simp only[Option.bind_some,QfZ]
     exact Qa _
    ·have e6:decide (0<(i:Int))= !decide (i=0):=by rw[Bool.eq_iff_iff];simp;omega
     rw[e6]
     cases(kindAt c m==1)<;>cases decide (i=0)<;>cases(kindAt c m==3)<;>cases decide (i+1=r.length)<;>cases hasLeg c prev m<;>rfl
   have hcnt:IntKind.i64.wrap (QW (cntM (r.take i)) m 0+1)=QW (cntM (r.take i)) m 0+1:=by
    rw[Qeb]
    have:(r.take i).count m<=i:=by have:=List.count_le_length (a:=m) (l:=r.take i);simp at this;omega
    exact Ya (by omega) (by omega)
   have step:Ev (fun n=>F_cs n c (Q3 legKey true c.Legs) r (cntM (r.take i),(i:Int))) (bif ((kindAt c m==1)==decide (i=0))&&(((kindAt c m==3)==decide (i+1=r.length))&&(decide (i=0)||hasLeg c prev m))then .cont (cntM (r.take (i+1)),((i+1:Nat):Int))else .done (.done false)):=by
    unfold F_cs
    simp only[ha.lt,cond_true,ha.ix,Option.bind_some,ha.nx,e1]
    refine Ev.bind hc ?_
    rw[hcnt, <- Qif, <- ha.take]
    cases(((kindAt c m==1)==decide (i=0))&&(((kindAt c m==3)==decide (i+1=r.length))&&(decide (i=0)||hasLeg c prev m)))<;>exact Qa _
   have e7:rokS c r.length i prev (m::t)=((((kindAt c m==1)==decide (i=0))&&(((kindAt c m==3)==decide (i+1=r.length))&&(decide (i=0)||hasLeg c prev m)))&&rokS c r.length (i+1) m t):=by rw[QfT];simp only[Bool.and_assoc]
   rw[e7]
   cases hv:(((kindAt c m==1)==decide (i=0))&&(((kindAt c m==3)==decide (i+1=r.length))&&(decide (i=0)||hasLeg c prev m)))with
   |false=>
    rw[hv]at step
    exact EvI.done step
   |true=>
    rw[hv]at step
    rw[Bool.true_and]
    exact EvI.cont step (ih (i+1) m ht' (by omega) (fun _=>by simpa using ha))
 exact(loop r 0 0 rfl (Nat.zero_le _) (by omega)).ev
theorem Qg0(c:Course)(w:CourseOk c)(q:NumOk c)(d:Distance)(hd:d∈c.Distances)(hw:∀x∈d.Route,Part.wf x)(hs:szPs d.Route<=256):
  Ev (fun n=>F_au n c d (Q3 legKey true c.Legs)) (routeS c d):=by
 have hlen:=QaG d.Route
 have hm:=Qjq q hd
 have hel:=Qd1 _ d.Route [] (Nat.le_refl _)
 unfold F_au routeS
 refine Ev.bind (Qia _ _ d.Route (Nat.le_refl _) hs (by omega) hw (q.dist d hd).2.2) ?_
 generalize expS [] d.Route=r at hm hel⊢
 unfold routeR
 have e3:IntKind.i64.wrap ((r.length:Int)-1)=(r.length:Int)-1:=by
  have:r.length<=1048576:=by simp at hel;omega
  exact QaF this
 rw[e3]
 have e0:(decide ((r.length:Int)-1<1)||decide (256<=(r.length:Int)-1))= !(decide (2<=r.length)&&decide (r.length<=256)):=by
  rw[Bool.eq_iff_iff];simp;omega
 refine Ev.bind (Ev.eq (Qp fun _=>Qa _) e0) ?_
 cases hq:(decide (2<=r.length)&&decide (r.length<=256))with
 |false=>exact Qa _
 |true=>
  simp only[Bool.and_eq_true,decide_eq_true_eq]at hq
  rw[Bool.true_and]
  refine Yi (Ev.bind (Qew c r hq.1 hq.2 hm) ?_)
  cases rokS c r.length 0 0 r with
  |false=>exact Qa _
  |true=>
   simp only[cond_true,Bool.true_and]
   have hx:Ev (fun n:Nat=>((bif decide (0<=d.Extra)then(some (QW (cntM r) d.Extra 0)).bind fun v71=>(bif (v71==0)then some true else(idx c.Mats d.Extra).bind fun x73=>(bif (x73.Kind != 2)then some true else(some (QW (Q3 legKey true c.Legs) ({from_:=d.Extra,to_:=d.Extra:typing_ends}) false)).bind fun v75=>some (!v75)))else some false):Option Bool))
     (!(bif decide (0<=d.Extra)then !((r.count d.Extra:Int)==0)&&((kindAt c d.Extra==2)&&hasLeg c d.Extra d.Extra)else true)):=by
    rw[Qeb]
    cases h0:decide (0<=d.Extra)with
    |false=>exact Qa _
    |true=>
     obtain⟨x,e1,e2⟩:=Qci (c:=c) (m:=d.Extra) (by simpa using h0) (q.dist d hd).2.1
     simp only[cond_true,Option.bind_some,e1,QfZ,e2]
     refine Ev.eq (Qp fun _=>Qp fun _=>Qa _) ?_
     rw[bne]
     cases((r.count d.Extra:Int)==0)<;>cases(kindAt c d.Extra==2)<;>cases hasLeg c d.Extra d.Extra<;>rfl
   refine Ev.bind hx ?_
   cases(bif decide (0<=d.Extra)then !((r.count d.Extra:Int)==0)&&((kindAt c d.Extra==2)&&hasLeg c d.Extra d.Extra)else true)with
   |false=>exact Qa _
   |true=>
    rw[Bool.true_and]
    refine Yi (Ev.bind ?_ (Qa _))
    unfold F_do F_fa F_fi
    refine YX d.Cutoffs _ (fun n x=>F_bf n x (cntM r)) (by have:=w.cut d hd;omega) fun x _=>?_
    unfold F_bf
    rw[Qeb]
    exact Qa _
theorem Qd5(c:Course)(w:CourseOk c)(q:NumOk c)(r:List Int)(hr2:2<=r.length)(hr:r.length<=256)(hm:∀x∈r,0<=x/\x<=(c.Mats.length:Int)-1):
  Ev (fun n=>iter (F_ci n c r) n 0) (bif rokS c r.length 0 0 r then .cont ()else .done false):=by
 have loop:∀(t:List Int) (i:Nat) (prev:Int),r.drop i=t->i<=r.length->(0<i->At r (i-1) prev)->EvI (fun n=>F_ci n c r) (i:Int) (bif rokS c r.length i prev t then .cont ()else .done false):=by
  intro t
  induction t with
  |nil=>
   intro i prev ht hi _
   refine EvI.done ?_
   unfold F_ci
   simp only[Yu ht hi,cond_false,rokS,cond_true]
   exact Qa _
  |cons m t ih=>
   intro i prev ht hi hp
   obtain⟨ha,ht'⟩:=QQ (by omega) ht
   have hlt:=ha.lt'
   obtain⟨h0,h1⟩:=hm m ha.mem
   obtain⟨x,e1,e2⟩:=Qci h0 h1
   have hk:=Qh2 q h0 h1
   have e3:IntKind.i64.wrap ((r.length:Int)-1)=((r.length-1:Nat):Int):=by rw[Ya (by omega) (by omega)];omega
   have e4:((i:Int)==((r.length-1:Nat):Int))=decide (i+1=r.length):=by rw[Bool.eq_iff_iff];simp;omega
   have step:Ev (fun n=>F_ci n c r (i:Int)) (bif ((kindAt c m==1)==decide (i=0))&&(((kindAt c m==3)==decide (i+1=r.length))&&(decide (i=0)||hasLeg c prev m))then .cont ((i+1:Nat):Int)else .done (.done false)):=by
    unfold F_ci
    simp only[ha.lt,cond_true,ha.ix,Option.bind_some,ha.nx,e1,e2,e3,e4,Qhw]
    refine Ev.bind (v:=if i=0 then 1 else if i+1=r.length then 3 else 2) (Ev.const ?_) ?_
    ·by_cases g0:i=0
     ·simp[g0]
     ·by_cases g1:i+1=r.length
      ·simp[g0,g1]
      ·simp[g0,g1]
    refine Ev.bind (v:= !(((kindAt c m==1)==decide (i=0))&&(((kindAt c m==3)==decide (i+1=r.length))&&(decide (i=0)||hasLeg c prev m)))) ?_ ?_
    ·have hl:Ev (fun n:Nat=>(bif decide (0<(i:Int))then(idx r (IntKind.i64.wrap ((i:Int)-1))).bind fun x68=>(F_z n c x68 m).bind fun r70=>some (decide (r70<0))else some false:Option Bool)) (!(decide (i=0)||hasLeg c prev m)):=by
      by_cases g0:i=0
      ·subst g0;exact Qa _
      ·have e5:IntKind.i64.wrap ((i:Int)-1)=((i-1:Nat):Int):=by rw[Ya (by omega) (by omega)];omega
       obtain⟨v,p1,p2⟩:=Qjw c w prev m
       rw[QO (show(0:Int)<(i:Int)by omega),e5,(hp (by omega)).ix,QS g0]
       simp only[cond_true,Option.bind_some]
       exact Ev.bind p1 ((Qa _).eq (by rw[p2];rfl))
     refine Ev.eq (Qp fun _=>hl) ?_
     have key:(kindAt c m != if i=0 then 1 else if i+1=r.length then 3 else 2)= !(((kindAt c m==1)==decide (i=0))&&((kindAt c m==3)==decide (i+1=r.length))):=by
      have hcases:kindAt c m=1\/kindAt c m=2\/kindAt c m=3:=by omega
      by_cases g0:i=0
      ·have g1:¬i+1=r.length:=by omega
       rcases hcases with g|g|g<;>simp[g,g0,show¬1=r.length by omega]
      ·by_cases g1:i+1=r.length
       ·rcases hcases with g|g|g<;>simp[g,g0,g1]
       ·rcases hcases with g|g|g<;>simp[g,g0,g1]
     rw[key]
     cases((kindAt c m==1)==decide (i=0))<;>cases((kindAt c m==3)==decide (i+1=r.length))<;>cases(decide (i=0)||hasLeg c prev m)<;>rfl
    ·cases(((kindAt c m==1)==decide (i=0))&&(((kindAt c m==3)==decide (i+1=r.length))&&(decide (i=0)||hasLeg c prev m)))<;>exact Qa _
   have e7:rokS c r.length i prev (m::t)=((((kindAt c m==1)==decide (i=0))&&(((kindAt c m==3)==decide (i+1=r.length))&&(decide (i=0)||hasLeg c prev m)))&&rokS c r.length (i+1) m t):=by rw[QfT];simp only[Bool.and_assoc]
   rw[e7]
   cases hv:(((kindAt c m==1)==decide (i=0))&&(((kindAt c m==3)==decide (i+1=r.length))&&(decide (i=0)||hasLeg c prev m)))with
   |false=>
    rw[hv]at step
    exact EvI.done step
   |true=>
    rw[hv]at step
    rw[Bool.true_and]
    exact EvI.cont step (ih (i+1) m ht' (by omega) (fun _=>by simpa using ha))
 exact(loop r 0 0 rfl (Nat.zero_le _) (by omega)).ev
theorem Qgf(c:Course)(w:CourseOk c)(q:NumOk c)(d:Distance)(hd:d∈c.Distances)(hw:∀x∈d.Route,Part.wf x)(hs:szPs d.Route<=256):
  Ev (fun n=>F_br n c d) (routeS c d):=by
 have hlen:=QaG d.Route
 have hm:=Qjq q hd
 have hel:=Qd1 _ d.Route [] (Nat.le_refl _)
 unfold F_br routeS
 refine Ev.bind (Qfn _ _ d.Route (Nat.le_refl _) hs (by omega) hw (q.dist d hd).2.2) ?_
 generalize expS [] d.Route=r at hm hel⊢
 unfold routeR
 have e0:(decide ((r.length:Int)<2)||decide (256<(r.length:Int)))= !(decide (2<=r.length)&&decide (r.length<=256)):=by
  rw[Bool.eq_iff_iff];simp;omega
 refine Ev.bind (Ev.eq (Qp fun _=>Qa _) e0) ?_
 cases hq:(decide (2<=r.length)&&decide (r.length<=256))with
 |false=>exact Qa _
 |true=>
  simp only[Bool.and_eq_true,decide_eq_true_eq]at hq
  rw[Bool.true_and]
  refine Yi (Ev.bind (Qd5 c w q r hq.1 hq.2 hm) ?_)
  cases rokS c r.length 0 0 r with
  |false=>exact Qa _
  |true=>
   simp only[cond_true,Bool.true_and]
   have hx:Ev (fun n:Nat=>((bif (d.Extra != (-1))then(idx c.Mats d.Extra).bind fun x81=>(bif (x81.Kind != 2)then some true else(F_ag n r d.Extra).bind fun r83=>(bif (r83==0)then some true else(F_z n c d.Extra d.Extra).bind fun r85=>some (decide (r85<0))))else some false):Option Bool))
     (!(bif decide (0<=d.Extra)then !((r.count d.Extra:Int)==0)&&((kindAt c d.Extra==2)&&hasLeg c d.Extra d.Extra)else true)):=by
    have hq2:=q.dist d hd
    have e9:(d.Extra != (-1))=decide (0<=d.Extra):=by rw[Bool.eq_iff_iff];simp;omega
    rw[e9]
    cases h0:decide (0<=d.Extra)with
    |false=>exact Qa _
    |true=>
     obtain⟨x,e1,e2⟩:=Qci (c:=c) (m:=d.Extra) (by simpa using h0) hq2.2.1
     obtain⟨v,p1,p2⟩:=Qjw c w d.Extra d.Extra
     simp only[cond_true,Option.bind_some,e1,e2]
     refine Ev.eq (Qp fun _=>Ev.bind (Qgj r _ (by omega)) (Qp fun _=>Ev.bind p1 (Qa _))) ?_
     rw[bne,p2]
     cases((r.count d.Extra:Int)==0)<;>cases(kindAt c d.Extra==2)<;>cases hasLeg c d.Extra d.Extra<;>rfl
   refine Ev.bind hx ?_
   cases(bif decide (0<=d.Extra)then !((r.count d.Extra:Int)==0)&&((kindAt c d.Extra==2)&&hasLeg c d.Extra d.Extra)else true)with
   |false=>exact Qa _
   |true=>
    rw[Bool.true_and]
    refine Yi (Ev.bind (Yx d.Cutoffs (fun x=>decide (x.Lap<=(r.count x.Mat:Int))) (Ctl.done false) (Ctl.cont ()) (by have:=w.cut d hd;omega) (fun i x ha=>?_) ?_) ?_)
    ·unfold F_ha
     simp only[ha.lt,cond_true,ha.ix,Option.bind_some,ha.nx]
     refine Ev.bind (Qgj r _ (by omega)) ?_
     have:decide ((r.count x.Mat:Int)<x.Lap)= !decide (x.Lap<=(r.count x.Mat:Int)):=by rw[Bool.eq_iff_iff];simp
     rw[this]
     cases decide (x.Lap<=(r.count x.Mat:Int))<;>exact Qa _
    ·unfold F_ha
     simp only[Qaj,cond_false]
     exact Qa _
    ·cases(d.Cutoffs.all fun x=>decide (x.Lap<=(r.count x.Mat:Int)))<;>exact Qa _
theorem QcW{a b:Nat}(h:a+b<=4611686018427387904):IntKind.i64.wrap ((a:Int)+(b:Int))=((a+b:Nat):Int):=by
 rw[Ya (by omega) (by omega)];omega
def lensC(c:Course):Nat:=c.Mats.length+c.Legs.length+c.Distances.length+c.Waves.length+c.Offences.length+c.Categories.length+c.Prizes.length
def fewD(d:Distance):Prop:=d.Cutoffs.length<=200/\szPs d.Route<=200/\hPs d.Route<=16
structure FewOk (c:Course):Prop where
 lens:lensC c<=200
 name:c.Name.length<=100
 dist:∀d∈c.Distances,fewD d
 ties:c.Ties.length<=200
theorem Qfq(c:Course)(w:CourseOk c)(q:PartsOk c)(hl:c.Ties.length<=1048576)(hw:∀x∈c.Ties,Step.wf x):∃b,Ev (fun n=>F_at n c) b/\(b=true->FewOk c):=by
 have hm:=w.mats
 have hg:=w.legs
 have hd:=w.dist
 have hv:=w.wave
 have ho:=w.off
 have hc:=w.cat
 have hp:=w.prize
 have loop:∀(t:List Distance) (i s:Nat),c.Distances.drop i=t->i<=c.Distances.length->∃res:Ctl Int Bool,EvI (fun n=>F_bi n c) ((s:Int),(i:Int)) res/\(res=.done false\/ ∃v:Nat,res=.cont (v:Int)/\(v<=200->s<=v/\ ∀d∈t,fewD d)):=by
  intro t
  induction t with
  |nil=>
   intro i s ht hi
   refine⟨.cont (s:Int),EvI.done ?_,Or.inr ⟨s,rfl,fun _=>⟨Nat.le_refl _,by simp⟩⟩⟩
   unfold F_bi
   simp only[Yu ht hi,cond_false,Option.bind_some]
   exact Qa _
  |cons d t ih=>
   intro i s ht hi
   obtain⟨ha,ht'⟩:=QQ (by omega) ht
   have hlt:=ha.lt'
   by_cases hs:s<=200
   ·have hlen:=q.len d ha.mem
    have hwf:=q.wf d ha.mem
    have hcut:=w.cut d ha.mem
    have p1:=Qc8 _ d.Route (Nat.le_refl _) hlen hwf
    have p2:=Qc7 _ d.Route 17 (Nat.le_refl _) (Nat.le_refl _) hlen hwf
    have e1:IntKind.i64.wrap ((s:Int)+(d.Cutoffs.length:Int))=((s+d.Cutoffs.length:Nat):Int):=QcW (by omega)
    have e2:IntKind.i64.wrap (((s+d.Cutoffs.length:Nat):Int)+((min (szPs d.Route) 257:Nat):Int))=((s+d.Cutoffs.length+min (szPs d.Route) 257:Nat):Int):=QcW (by omega)
    have step:Ev (fun n=>F_bi n c ((s:Int),(i:Int))) (bif decide ((16:Int)<((min (hPs d.Route) 17:Nat):Int))then .done (.done false)else .cont (((s+d.Cutoffs.length+min (szPs d.Route) 257:Nat):Int),((i+1:Nat):Int))):=by
     unfold F_bi
     simp only[ha.lt,cond_true,ha.ix,Option.bind_some,ha.nx,QO (show(s:Int)<=200 by omega)]
     refine Ev.bind p1 (Ev.bind p2 ?_)
     rw[e1,e2]
     cases decide ((16:Int)<((min (hPs d.Route) 17:Nat):Int))<;>exact Qa _
    by_cases hh:hPs d.Route<=16
    ·rw[QS (show¬(16:Int)<((min (hPs d.Route) 17:Nat):Int)by omega)]at step
     obtain⟨res,k1,k2⟩:=ih (i+1) (s+d.Cutoffs.length+min (szPs d.Route) 257) ht' (by omega)
     refine⟨res,EvI.cont step k1,?_⟩
     rcases k2 with k2|⟨v,k2,k3⟩
     ·exact Or.inl k2
     ·refine Or.inr ⟨v,k2,fun hv=>?_⟩
      obtain⟨k4,k5⟩:=k3 hv
      refine⟨by omega,fun x hx=>?_⟩
      rcases List.mem_cons.1 hx with rfl|hx
      ·exact⟨by omega,by omega,hh⟩
      ·exact k5 x hx
    ·rw[QO (show(16:Int)<((min (hPs d.Route) 17:Nat):Int)by omega)]at step
     exact⟨.done false,EvI.done step,Or.inl rfl⟩
   ·refine⟨.cont (s:Int),EvI.done ?_,Or.inr ⟨s,rfl,fun h=>absurd h hs⟩⟩
    unfold F_bi
    simp only[ha.lt,cond_true,QS (show¬(s:Int)<=200 by omega),Option.bind_some,cond_false]
    exact Qa _
 obtain⟨res,k1,k2⟩:=loop c.Distances 0 (lensC c) rfl (Nat.zero_le _)
 have e:IntKind.i64.wrap ((IntKind.i64.wrap ((IntKind.i64.wrap ((IntKind.i64.wrap ((IntKind.i64.wrap ((IntKind.i64.wrap ((c.Mats.length:Int)+(c.Legs.length:Int)))+(c.Distances.length:Int)))+(c.Waves.length:Int)))+(c.Offences.length:Int)))+(c.Categories.length:Int)))+(c.Prizes.length:Int))=(lensC c:Int):=by
  have h1:c.Mats.length+c.Legs.length<=4611686018427387904:=by omega
  have h2:c.Mats.length+c.Legs.length+c.Distances.length<=4611686018427387904:=by omega
  have h3:c.Mats.length+c.Legs.length+c.Distances.length+c.Waves.length<=4611686018427387904:=by omega
  have h4:c.Mats.length+c.Legs.length+c.Distances.length+c.Waves.length+c.Offences.length<=4611686018427387904:=by omega
  have h5:c.Mats.length+c.Legs.length+c.Distances.length+c.Waves.length+c.Offences.length+c.Categories.length<=4611686018427387904:=by omega
  have h6:c.Mats.length+c.Legs.length+c.Distances.length+c.Waves.length+c.Offences.length+c.Categories.length+c.Prizes.length<=4611686018427387904:=by omega
  rw[QcW h1,QcW h2,QcW h3,QcW h4,QcW h5,QcW h6]
  rfl
 unfold F_at
 rw[e]
 rcases k2 with rfl|⟨v,rfl,k3⟩
 ·exact⟨false,Ev.bind k1.ev (Qa _),fun h=>by cases h⟩
 ·obtain⟨a,b,p1,p2,p3,_,_,_,_⟩:=QhE _ c.Ties 0 (Nat.le_refl _) (by omega) hl hw
  have hfew:Ev (fun n=>F_bs n c.Ties) (decide ((c.Ties.length:Int)<=20)&&(decide (a<=80)&&decide (b<=300))):=by
   unfold F_bs
   exact Ev.bind p1 (Ev.bind (Qf fun _=>Qf fun _=>Qa _) (Qa _))
  refine⟨decide ((v:Int)<=200)&&(decide ((c.Name.length:Int)<=100)&&(decide ((c.Ties.length:Int)<=20)&&(decide (a<=80)&&decide (b<=300)))),Ev.bind k1.ev (Ev.bind (Qf fun _=>Qf fun _=>Ev.bind hfew (Qa _)) (Qa _)),fun h=>?_⟩
  simp only[Bool.and_eq_true,decide_eq_true_eq]at h
  obtain⟨k4,k5⟩:=k3 (by omega)
  exact⟨by omega,by omega,k5,by omega⟩
def fitsS(c:Course):Bool:=
 !(decide (40<(c.Mats.length:Int))||(decide (512<(c.Legs.length:Int))||(decide (8<(c.Distances.length:Int))||(decide (32<(c.Waves.length:Int))||(decide (32<(c.Offences.length:Int))||(decide (32<(c.Categories.length:Int))||decide (32<(c.Prizes.length:Int))))))))
  &&c.Distances.all fun d=> !decide (64<(d.Cutoffs.length:Int))
theorem Qkx(c:Course)(w:CourseOk c)(q:PartsOk c)(k:FewOk c):Ev (fun n=>F_ay n c) (fitsS c):=by
 unfold F_ay fitsS
 refine Ev.bind (Qp fun _=>Qp fun _=>Qp fun _=>Qp fun _=>Qp fun _=>Qp fun _=>Qa _) ?_
 cases(decide (40<(c.Mats.length:Int))||(decide (512<(c.Legs.length:Int))||(decide (8<(c.Distances.length:Int))||(decide (32<(c.Waves.length:Int))||(decide (32<(c.Offences.length:Int))||(decide (32<(c.Categories.length:Int))||decide (32<(c.Prizes.length:Int))))))))with
 |true=>exact Qa _
 |false=>
  rw[Bool.not_false,Bool.true_and]
  refine Yi (Ev.bind (Yx c.Distances (fun d=> !decide (64<(d.Cutoffs.length:Int))) (Ctl.done false) (Ctl.cont ()) (by have:=w.dist;omega) (fun i x ha=>?_) ?_) ?_)
  ·obtain⟨f1,f2,f3⟩:=k.dist x ha.mem
   unfold F_gw
   simp only[ha.lt,cond_true,ha.ix,Option.bind_some,ha.nx]
   refine Ev.bind (Qjt _ x.Route 17 (Nat.le_refl _) (by omega) (Nat.le_refl _) (by omega) (q.wf x ha.mem)) ?_
   refine Ev.bind (Qp fun _=>Qp fun _=>Qa _) ?_
   simp only[QS (show¬(16:Int)<(hPs x.Route:Int)by omega),QS (show¬(256:Int)<(szPs x.Route:Int)by omega),Bool.or_false]
   cases decide (64<(x.Cutoffs.length:Int))<;>exact Qa _
  ·unfold F_gw
   simp only[Qaj,cond_false]
   exact Qa _
  ·cases(c.Distances.all fun d=> !decide (64<(d.Cutoffs.length:Int)))<;>exact Qa _
theorem Qib(c:Course)(w:CourseOk c)(q:PartsOk c)(k:FewOk c):Ev (fun n=>F_cd n c) (fitsS c):=by
 unfold F_cd fitsS
 refine Ev.bind (Qp fun _=>Qp fun _=>Qp fun _=>Qp fun _=>Qp fun _=>Qp fun _=>Qa _) ?_
 cases(decide (40<(c.Mats.length:Int))||(decide (512<(c.Legs.length:Int))||(decide (8<(c.Distances.length:Int))||(decide (32<(c.Waves.length:Int))||(decide (32<(c.Offences.length:Int))||(decide (32<(c.Categories.length:Int))||decide (32<(c.Prizes.length:Int))))))))with
 |true=>exact Qa _
 |false=>
  rw[Bool.not_false,Bool.true_and]
  refine Yi (Ev.bind (Yx c.Distances (fun d=> !decide (64<(d.Cutoffs.length:Int))) (Ctl.done false) (Ctl.cont ()) (by have:=w.dist;omega) (fun i x ha=>?_) ?_) ?_)
  ·obtain⟨f1,f2,f3⟩:=k.dist x ha.mem
   have hlen:=q.len x ha.mem
   have hwf:=q.wf x ha.mem
   unfold F_gx
   simp only[ha.lt,cond_true,ha.ix,Option.bind_some,ha.nx]
   refine Ev.bind (Qp fun _=>Ev.bind (Qc7 _ x.Route 17 (Nat.le_refl _) (Nat.le_refl _) hlen hwf) (Qp fun _=>Ev.bind (Qc8 _ x.Route (Nat.le_refl _) hlen hwf) (Qa _))) ?_
   simp only[QS (show¬(16:Int)<((min (hPs x.Route) 17:Nat):Int)by omega),QS (show¬(256:Int)<((min (szPs x.Route) 257:Nat):Int)by omega),Bool.or_false]
   cases decide (64<(x.Cutoffs.length:Int))<;>exact Qa _
  ·unfold F_gx
   simp only[Qaj,cond_false]
   exact Qa _
  ·cases(c.Distances.all fun d=> !decide (64<(d.Cutoffs.length:Int)))<;>exact Qa _
def courseE(c:Course):Int:=
 bif fitsS c then bif namesS c then bif numbersS c then bif tiesE c.Ties==0 then bif c.Distances.all (routeS c)then 0 else 72 else tiesE c.Ties else 71 else 70 else 2
theorem Qic(c:Course)(w:CourseOk c)(q:PartsOk c)(k:FewOk c)(hl:c.Ties.length<=1048576)(hw:∀x∈c.Ties,Step.wf x):Ev (fun n=>F_ad n c) (courseE c):=by
 unfold F_ad courseE
 refine Ev.bind (Qkx c w q k) ?_
 cases fitsS c with
 |false=>exact Qa _
 |true=>
 refine Yi (Ev.bind (Qjs c w) ?_)
 cases namesS c with
 |false=>exact Qa _
 |true=>
 refine Yi (Ev.bind (QgZ c w q) ?_)
 cases hn:numbersS c with
 |false=>exact Qa _
 |true=>
 refine Yi (Ev.bind (Qkz c.Ties hl hw) ?_)
 rw[bne]
 cases(tiesE c.Ties==0)with
 |false=>exact Qa _
 |true=>
 have hs:Ev (fun n=>iter (F_gs n c) n ([],0)) (Q3 legKey true c.Legs):=by
  refine Qbk c.Legs legKey true (by have:=w.legs;omega) (fun i x m ha=>?_) (fun m=>?_)
  ·unfold F_gs
   simp only[ha.lt,cond_true,ha.ix,Option.bind_some,ha.nx]
   exact Qa _
  ·unfold F_gs
   simp only[Qaj,cond_false]
   exact Qa _
 refine Yi (Ev.bind hs ?_)
 have ha:Ev (fun n=>F_cb n c.Distances c (Q3 legKey true c.Legs)) (c.Distances.all (routeS c)):=by
  unfold F_cb F_ey F_eu
  refine YX c.Distances _ (fun n x=>F_db n x c (Q3 legKey true c.Legs)) (by have:=w.dist;omega) fun x hx=>?_
  unfold F_db
  exact Ev.bind (Qg0 c w (Qgv hn) x hx (q.wf x hx) (by have:=(k.dist x hx).2.1;omega)) (Qa _)
 refine Ev.bind ha ?_
 cases c.Distances.all (routeS c)<;>exact Qa _
theorem Qfo(c:Course)(w:CourseOk c)(q:PartsOk c)(k:FewOk c)(hl:c.Ties.length<=1048576)(hw:∀x∈c.Ties,Step.wf x):Ev (fun n=>F_am n c) (courseE c):=by
 have hlens:=k.lens
 unfold lensC at hlens
 have sh:Short c:=⟨by omega,by omega,by omega,by omega,by omega⟩
 unfold F_am courseE
 refine Ev.bind (Qib c w q k) ?_
 cases fitsS c with
 |false=>exact Qa _
 |true=>
 refine Yi (Ev.bind (Qgh c w sh) ?_)
 cases namesS c with
 |false=>exact Qa _
 |true=>
 refine Yi (Ev.bind (Qfm c w q) ?_)
 cases hn:numbersS c with
 |false=>exact Qa _
 |true=>
 refine Yi (Ev.bind (QgX c.Ties hl hw) ?_)
 rw[bne]
 cases(tiesE c.Ties==0)with
 |false=>exact Qa _
 |true=>
 refine Yi (Ev.bind (Yx c.Distances (routeS c) (Ctl.done 72) (Ctl.cont ()) (by have:=w.dist;omega) (fun i x ha=>?_) ?_) ?_)
 ·unfold F_gz
  simp only[ha.lt,cond_true,ha.ix,Option.bind_some,ha.nx]
  refine Ev.bind (Qgf c w (Qgv hn) x ha.mem (q.wf x ha.mem) (by have:=(k.dist x ha.mem).2.1;omega)) ?_
  cases routeS c x<;>exact Qa _
 ·unfold F_gz
  simp only[Qaj,cond_false]
  exact Qa _
 ·cases c.Distances.all (routeS c)<;>exact Qa _
def firstI{α:Type}(q:α->Bool):List α->Nat->Int
 |[],_=> -1
 |x::l,i=>bif q x then(i:Int)else firstI q l (i+1)
theorem Ev.first{α:Type}{step:Nat->Int->Option (Ctl Int (Ctl Unit Int))}(l:List α)(q:α->Bool)(hl:l.length<=4611686018427387904)
  (hs:∀i x,At l i x->Ev (fun n=>step n (i:Int)) (bif q x then .done (.done (i:Int))else .cont ((i+1:Nat):Int)))(hd:Ev (fun n=>step n (l.length:Int)) (.done (.cont ()))):
  Ev (fun n=>(Go.Sw.iter (step n) n 0).bind fun b=>match b with|.cont _=>some (-1)|.done v=>some v) (firstI q l 0):=by
 have loop:∀(r:List α) (i:Nat),l.drop i=r->i<=l.length->∃res:Ctl Unit Int,EvI step (i:Int) res/\(match res with|.cont _=>some (-1)|.done v=>some v)=some (firstI q r i):=by
  intro r
  induction r with
  |nil=>
   intro i hr hi
   have:i=l.length:=by have:=List.drop_eq_nil_iff.1 hr;omega
   subst this
   exact⟨.cont (),EvI.done hd,rfl⟩
  |cons x r ih=>
   intro i hr hi
   obtain⟨ha,hr'⟩:=QQ hl hr
   have s:=hs i x ha
   unfold firstI
   cases h:q x with
   |true=>
    rw[h]at s
    exact⟨_,EvI.done s,rfl⟩
   |false=>
    rw[h]at s
    obtain⟨res,p1,p2⟩:=ih (i+1) hr' (by have:=ha.lt';omega)
    exact⟨res,EvI.cont s p1,p2⟩
 obtain⟨res,p1,p2⟩:=loop l 0 rfl (Nat.zero_le _)
 exact Ev.bind p1.ev (Ev.const p2)
set_option maxRecDepth 4000
def openU(f:Fact):U_facts_open_rxk:=
 bif f.Kind==1 then .c0 ()else bif f.Kind==2 then .c1 ()else bif f.Kind==3 then .c2 ()else bif f.Kind==4 then .c3 ()else bif f.Kind==5 then .c4 ()else bif f.Kind==6 then .c5 ()
 else bif f.Kind==7 then .c6 ()else bif f.Kind==8 then .c7 ()else bif f.Kind==9 then .c8 ()else bif f.Kind==10 then
  (bif (f.Ruling.Kind==1)||(f.Ruling.Kind==2)then .c9 (0,0,0,0,0,0)else bif f.Ruling.Kind==3 then .c9 (1,9999,0,255,1,1099511627776)else bif f.Ruling.Kind==4 then .c9 (1,9999,0,255,1,64)else .c9 (1,9999,0,255,0,0))
 else bif f.Kind==11 then .c10 ()else bif f.Kind==12 then .c11 ()else bif f.Kind==13 then .c12 ()else .c13 ()
set_option maxRecDepth 4000
def cmpI(a b:Int):Int:=bif decide (a<b)then-1 else bif decide (b<a)then 1 else 0
theorem Qky(n:Nat)(a b:Int):F_af n a b=some (cmpI a b):=by
 unfold F_af F_aq cmpI
 simp only[Option.bind_some,bne_self_eq_false,cond_false]
 cases decide (a<b)with
 |true=>rfl
 |false=>cases decide (b<a)<;>rfl
def orL:List Int->Int
 |[]=>0
 |x::r=>bif x != 0 then x else orL r
theorem Qfs{a b:Int}:cmpI a b<0↔a<b:=by
 unfold cmpI
 by_cases h:a<b
 ·rw[decide_eq_true h];simp[h]
 ·rw[decide_eq_false h]
  by_cases h2:b<a
  ·rw[decide_eq_true h2];simp;omega
  ·rw[decide_eq_false h2];simp;omega
theorem Qa3{a b:Int}:cmpI a b=0↔a=b:=by
 unfold cmpI
 by_cases h:a<b
 ·rw[decide_eq_true h];simp;omega
 ·rw[decide_eq_false h]
  by_cases h2:b<a
  ·rw[decide_eq_true h2];simp;omega
  ·rw[decide_eq_false h2];simp;omega
set_option maxRecDepth 4000
theorem kinds(f:Fact):f.Kind=1\/f.Kind=2\/f.Kind=3\/f.Kind=4\/f.Kind=5\/f.Kind=6\/f.Kind=7\/f.Kind=8\/f.Kind=9\/f.Kind=10\/f.Kind=11\/f.Kind=12\/f.Kind=13\/openU f=.c13 ():=by
 by_cases h1:f.Kind=1; · exact .inl h1
 by_cases h2:f.Kind=2; · exact .inr (.inl h2)
 by_cases h3:f.Kind=3; · exact .inr (.inr (.inl h3))
 by_cases h4:f.Kind=4; · exact .inr (.inr (.inr (.inl h4)))
 by_cases h5:f.Kind=5; · exact .inr (.inr (.inr (.inr (.inl h5))))
 by_cases h6:f.Kind=6; · exact .inr (.inr (.inr (.inr (.inr (.inl h6)))))
 by_cases h7:f.Kind=7; · exact .inr (.inr (.inr (.inr (.inr (.inr (.inl h7))))))
 by_cases h8:f.Kind=8; · exact .inr (.inr (.inr (.inr (.inr (.inr (.inr (.inl h8)))))))
 by_cases h9:f.Kind=9; · exact .inr (.inr (.inr (.inr (.inr (.inr (.inr (.inr (.inl h9))))))))
 by_cases h10:f.Kind=10; · exact .inr (.inr (.inr (.inr (.inr (.inr (.inr (.inr (.inr (.inl h10)))))))))
 by_cases h11:f.Kind=11; · exact .inr (.inr (.inr (.inr (.inr (.inr (.inr (.inr (.inr (.inr (.inl h11))))))))))
 by_cases h12:f.Kind=12; · exact .inr (.inr (.inr (.inr (.inr (.inr (.inr (.inr (.inr (.inr (.inr (.inl h12)))))))))))
 by_cases h13:f.Kind=13; · exact .inr (.inr (.inr (.inr (.inr (.inr (.inr (.inr (.inr (.inr (.inr (.inr (.inl h13))))))))))))
 refine .inr (.inr (.inr (.inr (.inr (.inr (.inr (.inr (.inr (.inr (.inr (.inr (.inr ?_))))))))))))
 unfold openU
 simp only[beq_eq_false_iff_ne.2 h1,beq_eq_false_iff_ne.2 h2,beq_eq_false_iff_ne.2 h3,beq_eq_false_iff_ne.2 h4,beq_eq_false_iff_ne.2 h5,beq_eq_false_iff_ne.2 h6,beq_eq_false_iff_ne.2 h7,beq_eq_false_iff_ne.2 h8,beq_eq_false_iff_ne.2 h9,beq_eq_false_iff_ne.2 h10,beq_eq_false_iff_ne.2 h11,beq_eq_false_iff_ne.2 h12,beq_eq_false_iff_ne.2 h13,cond_false]
set_option maxRecDepth 4000
section
variable {α:Type}{c d:α->α->Int}
end
set_option maxRecDepth 4000
set_option maxRecDepth 4000
def nb(v lo hi:Int):Bool:= !(decide (v<lo))&& !(decide (hi<v))
theorem Qi8(v lo hi:Int):nb v lo hi=true↔lo<=v/\v<=hi:=by
 unfold nb
 simp only[Bool.and_eq_true,Bool.not_eq_true',decide_eq_false_iff_not]
 omega
theorem Qjh(n:Nat)(v a b:Int):F_ab n v a b=some (nb v a b):=by
 unfold F_ab nb
 have e1:decide (a<=v)= !decide (v<a):=by rw[Bool.eq_iff_iff];simp
 have e2:decide (v<=b)= !decide (b<v):=by rw[Bool.eq_iff_iff];simp
 rw[e1,e2]
 cases decide (v<a)<;>rfl
theorem QiV(n:Nat)(v:Int):F_as n v=some (nb v 0 255):=by unfold F_as;rw[Qjh];rfl
theorem Qkm(n:Nat)(v:Int):F_an n v=some (nb v 0 1048576):=by unfold F_an;rw[Qjh];rfl
theorem Qkl(n:Nat)(v:Int):F_x n v=some (nb v (-1099511627776) 1099511627776):=by unfold F_x;rw[Qjh];rfl
theorem Qdh{c:Course}(h:Course.wf c):CourseOk c:=by
 obtain⟨h1,⟨h2,k2⟩,⟨h3,k3⟩,⟨h4,k4⟩,⟨h5,k5⟩,⟨h6,k6⟩,⟨h7,k7⟩,⟨h8,k8⟩,_⟩:=h
 exact⟨h1,h2,fun x hx=>(k2 x hx).1,h3,h4,fun x hx=>(k4 x hx).1,fun x hx=>(k4 x hx).2.2.2.1.1,h5,fun x hx=>(k5 x hx).1,h6,fun x hx=>(k6 x hx).1,h7,fun x hx=>(k7 x hx).1,h8⟩
theorem Qei{c:Course}(h:Course.wf c):PartsOk c:=by
 obtain⟨_,_,_,⟨h4,k4⟩,_⟩:=h
 exact⟨fun d hd=>(k4 d hd).2.1.1,fun d hd=>(k4 d hd).2.1.2⟩
theorem Qe7{c:Course}(h:Course.wf c):c.Ties.length<=1048576/\ ∀x∈c.Ties,Step.wf x:=by
 obtain⟨_,_,_,_,_,_,_,_,h9,_⟩:=h
 exact h9
structure IsHit (W:Int) (S:Int->Prop) (a b:Int):Prop where
 fa:S a
 lb:S b
 le:a<=b
 st:∀s,S s->s<a->s<a-W
 en:∀s,S s->b<s->b+W<s
 su:∀s,S s->a<=s->s<b->∃t,S t/\s<t/\t<=s+W
 pr:∀s,S s->a<s->s<=b->∃t,S t/\t<s/\s-W<=t/\a<=t
theorem QkY{W:Int}{S T:Int->Prop}(h:∀s,S s↔T s){a b:Int}(q:IsHit W S a b):IsHit W T a b:=by
 have:S=T:=funext fun s=>propext (h s)
 rw[<- this];exact q
def EvL{S T B:Type}(step:Nat->S->Option (List T×Ctl S B))(s:S)(r:List T×B):Prop:=∃N,∀n k,N<=n->N<=k->QbQ (step n) k s=some r
theorem EvL.done{S T B:Type}{step:Nat->S->Option (List T×Ctl S B)}{s:S}{z:List T}{b:B}(h:Ev (fun n=>step n s) (z,.done b)):EvL step s (z,b):=by
 obtain⟨N,h⟩:=h
 refine⟨N+1,fun n k hn hk=>?_⟩
 obtain⟨j,rfl⟩:∃j,k=j+1:=⟨k-1,by omega⟩
 simp only[QbQ,h n (by omega),Option.bind_some]
theorem EvL.cont{S T B:Type}{step:Nat->S->Option (List T×Ctl S B)}{s s':S}{z ys:List T}{b:B}(h:Ev (fun n=>step n s) (z,.cont s'))(q:EvL step s' (ys,b)):EvL step s (z++ys,b):=by
 obtain⟨N,h⟩:=h
 obtain⟨M,q⟩:=q
 refine⟨max N M+1,fun n k hn hk=>?_⟩
 obtain⟨j,rfl⟩:∃j,k=j+1:=⟨k-1,by omega⟩
 simp only[QbQ,h n (by omega),Option.bind_some,q n j (by omega) (by omega)]
theorem EvL.ev{S T B:Type}{step:Nat->S->Option (List T×Ctl S B)}{s:S}{r:List T×B}(h:EvL step s r):Ev (fun n=>QbQ (step n) n s) r:=by
 obtain⟨N,h⟩:=h
 exact⟨N,fun n hn=>h n n hn hn⟩
theorem EvL.eq{S T B:Type}{step:Nat->S->Option (List T×Ctl S B)}{s:S}{r r':List T×B}(h:EvL step s r)(e:r=r'):EvL step s r':=e▸h
def cmpPl(x y:hits_place):Int:=orL [cmpI x.chip y.chip,cmpI x.mat y.mat,cmpI x.epoch y.epoch]
def ltPl(x y:hits_place):Prop:=x.chip<y.chip\/(x.chip=y.chip/\(x.mat<y.mat\/(x.mat=y.mat/\x.epoch<y.epoch)))
theorem or3(n:Nat)(a b d:Int):F_cz (n+4) [a,b,d]=some (orL [a,b,d]):=by
 unfold F_cz
 have s0:F_es (n+4) [a,b,d] 0=bif a != 0 then some (.done (.done a))else some (.cont 1):=rfl
 have s1:F_es (n+4) [a,b,d] 1=bif b != 0 then some (.done (.done b))else some (.cont 2):=rfl
 have s2:F_es (n+4) [a,b,d] 2=bif d != 0 then some (.done (.done d))else some (.cont 3):=rfl
 have s3:F_es (n+4) [a,b,d] 3=some (.done (.cont ())):=rfl
 unfold orL orL orL orL
 rw[iter,s0]
 cases q:(a != 0)with
 |true=>rfl
 |false=>
  simp only[cond_false]
  rw[iter,s1]
  cases q2:(b != 0)with
  |true=>rfl
  |false=>
   simp only[cond_false]
   rw[iter,s2]
   cases q3:(d != 0)with
   |true=>rfl
   |false=>
    simp only[cond_false]
    rw[iter,s3]
    rfl
theorem QfU(n:Nat):(fun x y=>F_ah (n+4) x y)=fun x y=>some (cmpPl x y):=by
 funext x y
 unfold F_ah cmpPl
 simp only[Qky,Option.bind_some,or3]
theorem QjH(x y:hits_place):cmpPl x y<0↔ltPl x y:=by
 unfold cmpPl orL orL orL orL ltPl
 have e:∀a b:Int,(cmpI a b != 0)= !decide (a=b):=fun a b=>by
  rw[Bool.eq_iff_iff]
  simp[Qa3]
 rw[e,e,e]
 by_cases h1:x.chip=y.chip
 ·by_cases h2:x.mat=y.mat
  ·by_cases h3:x.epoch=y.epoch
   ·simp[h1,h2,h3]
   ·simp only[h1,h2,h3,decide_true,decide_false,Bool.not_true,Bool.not_false,cond_true,cond_false,Qfs,true_and,false_and,or_false];omega
  ·simp only[h1,h2,decide_true,decide_false,Bool.not_true,Bool.not_false,cond_true,cond_false,Qfs,true_and,false_and,or_false];omega
 ·simp only[h1,decide_false,Bool.not_false,cond_true,Qfs,true_and,false_and,or_false]
theorem Qg6(x y:hits_place):cmpPl x y=0↔x=y:=by
 unfold cmpPl orL orL orL orL
 have e:∀a b:Int,(cmpI a b != 0)= !decide (a=b):=fun a b=>by
  rw[Bool.eq_iff_iff]
  simp[Qa3]
 rw[e,e,e]
 by_cases h1:x.chip=y.chip
 ·by_cases h2:x.mat=y.mat
  ·by_cases h3:x.epoch=y.epoch
   ·simp only[h1,h2,h3,decide_true,Bool.not_true,cond_false,true_iff]
    cases x;cases y;simp_all
   ·simp only[h1,h2,h3,decide_true,decide_false,Bool.not_true,Bool.not_false,cond_true,cond_false,Qa3]
    exact⟨fun z=>z.elim,fun z=>h3 (by rw[z])⟩
  ·simp only[h1,h2,decide_true,decide_false,Bool.not_true,Bool.not_false,cond_true,cond_false,Qa3]
   exact⟨fun z=>z.elim,fun z=>h2 (by rw[z])⟩
 ·simp only[h1,decide_false,Bool.not_false,cond_true,Qa3]
  exact⟨fun z=>z.elim,fun z=>h1 (by rw[z])⟩
section
variable {c:Course}{ts:List Int}
end
def plH(h:Hit):hits_place:=⟨h.Chip,h.Mat,h.Epoch⟩
theorem Qk4:F_ds 300=some true:=by kernel_rfl
theorem QjG(c:Course)(hc:Course.wf c):∃b,Ev (fun n=>F_at n c) b/\(b=true->FewOk c/\Ev (fun n=>F_ad n c) (courseE c)):=by
 have w:=Qdh hc
 have q:=Qei hc
 obtain⟨t1,t2⟩:=Qe7 hc
 obtain⟨b,pb,fb⟩:=Qfq c w q t1 t2
 exact⟨b,pb,fun hb=>⟨fb hb,Qic c w q (fb hb) t1 t2⟩⟩
end Go.Sw
