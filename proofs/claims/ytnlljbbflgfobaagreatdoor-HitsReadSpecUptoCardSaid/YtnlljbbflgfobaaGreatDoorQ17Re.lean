/- The plain laws that a law needs, with no program in sight. -/
import Derived.Test.YtnlljbbflgfobaaGreatDoorW17Re
set_option linter.unusedVariables false
set_option linter.unusedSimpArgs false
namespace Go.Sw
theorem Qg4{α:Type}(l:List α){a b:Nat}(h:a<=b)(hb:b<=l.length):slc l (a:Int) (b:Int)=some ((l.take b).drop a):=by
 unfold slc
 rw[QeW (show(0:Int)<=(a:Int)by omega),QeW (show(a:Int)<=(b:Int)by omega),QeW (show(b:Int)<=(l.length:Int)by omega)]
 simp
theorem Qkp{α:Type}(l:List α){b:Nat}(hb:b<=l.length):slc l 0 (b:Int)=some (l.take b):=by
 have:=Qg4 l (Nat.zero_le b) hb
 simpa using this
theorem Qim{α:Type}(l:List α){a:Nat}(hb:a<=l.length):slc l (a:Int) (l.length:Int)=some (l.drop a):=by
 have:=Qg4 l hb (Nat.le_refl _)
 simpa using this
def firstI{α:Type}(q:α->Bool):List α->Nat->Int
 |[],_=> -1
 |x::l,i=>bif q x then(i:Int)else firstI q l (i+1)
theorem Ev.first{α:Type}{step:Nat->Int->Option (Ctl Int (Ctl Unit Int))}(l:List α)(q:α->Bool)(hl:l.length<=4611686018427387904)
  (hs:∀i x,At l i x->Ev (fun n=>step n (i:Int)) (bif q x then .done (.done (i:Int))else .cont ((i+1:Nat):Int)))(hd:Ev (fun n=>step n (l.length:Int)) (.done (.cont ()))):
  Ev (fun n=>(Go.Sw.iter (step n) n 0).bind fun b=>match b with|.cont _=>some (-1)|.done v=>some v) (firstI q l 0):=by
 have loop:∀(r:List α) (i:Nat),l.drop i=r->i<=l.length->∃res:Ctl Unit Int,EvI step (i:Int) res/\(match res with|.cont _=>some (-1)|.done v=>some v)=some (firstI q r i):=by
  intro r
  induction r with
  |nil=>
   intro i hr hi
   have:i=l.length:=by have:=List.drop_eq_nil_iff.1 hr;omega
   subst this
   exact⟨.cont (),EvI.done hd,rfl⟩
  |cons x r ih=>
   intro i hr hi
   obtain⟨ha,hr'⟩:=QbY hl hr
   have s:=hs i x ha
   unfold firstI
   cases h:q x with
   |true=>
    rw[h]at s
    exact⟨_,EvI.done s,rfl⟩
   |false=>
    rw[h]at s
    obtain⟨res,p1,p2⟩:=ih (i+1) hr' (by have:=ha.lt';omega)
    exact⟨res,EvI.cont s p1,p2⟩
 obtain⟨res,p1,p2⟩:=loop l 0 rfl (Nat.zero_le _)
 exact Ev.bind p1.ev (Ev.const p2)
set_option maxRecDepth 4000
def openU(f:Fact):U_facts_open_rxk:=
 bif f.Kind==1 then .c0 ()else bif f.Kind==2 then .c1 ()else bif f.Kind==3 then .c2 ()else bif f.Kind==4 then .c3 ()else bif f.Kind==5 then .c4 ()else bif f.Kind==6 then .c5 ()
 else bif f.Kind==7 then .c6 ()else bif f.Kind==8 then .c7 ()else bif f.Kind==9 then .c8 ()else bif f.Kind==10 then
  (bif (f.Ruling.Kind==1)||(f.Ruling.Kind==2)then .c9 (0,0,0,0,0,0)else bif f.Ruling.Kind==3 then .c9 (1,9999,0,255,1,1099511627776)else bif f.Ruling.Kind==4 then .c9 (1,9999,0,255,1,64)else .c9 (1,9999,0,255,0,0))
 else bif f.Kind==11 then .c10 ()else bif f.Kind==12 then .c11 ()else bif f.Kind==13 then .c12 ()else .c13 ()
theorem Qha(n:Nat)(f:Fact)(b:Int):F_ak n f b=some (openU f):=by
 unfold F_ak openU
 cases(f.Kind==1)with
 |true=>rfl
 |false=>
 cases(f.Kind==2)with
 |true=>rfl
 |false=>
 cases(f.Kind==3)with
 |true=>rfl
 |false=>
 cases(f.Kind==4)with
 |true=>rfl
 |false=>
 cases(f.Kind==5)with
 |true=>rfl
 |false=>
 cases(f.Kind==6)with
 |true=>rfl
 |false=>
 cases(f.Kind==7)with
 |true=>rfl
 |false=>
 cases(f.Kind==8)with
 |true=>rfl
 |false=>
 cases(f.Kind==9)with
 |true=>rfl
 |false=>
 cases(f.Kind==10)with
 |true=>
  cases(f.Ruling.Kind==1)with
  |true=>rfl
  |false=>
  cases(f.Ruling.Kind==2)with
  |true=>rfl
  |false=>
  cases(f.Ruling.Kind==3)with
  |true=>rfl
  |false=>
  cases(f.Ruling.Kind==4)with
  |true=>rfl
  |false=>rfl
 |false=>
 cases(f.Kind==11)with
 |true=>rfl
 |false=>
 cases(f.Kind==12)with
 |true=>rfl
 |false=>
 cases(f.Kind==13)with
 |true=>rfl
 |false=>rfl
def headL:List Ent:=[⟨false,3,1,13⟩,⟨false,0,0,31⟩,⟨false,1,1,1048576⟩,⟨false,2,0,1099511627776⟩]
def bodyL:U_facts_open_rxk->List Ent
 |.c0 _=>[⟨false,4,1,9999⟩,⟨false,5,0,7⟩,⟨false,6,0,31⟩,⟨false,7,(-1099511627776),1099511627776⟩,⟨false,8,0,120⟩,⟨false,9,0,1048576⟩,⟨false,10,0,9999⟩,⟨false,11,0,1048576⟩]
 |.c1 _=>[⟨false,12,0,39⟩,⟨false,13,0,255⟩,⟨false,14,0,1048576⟩,⟨false,15,(-1099511627776),1099511627776⟩]
 |.c2 _=>[⟨false,16,0,39⟩,⟨false,17,0,255⟩,⟨false,18,(-1099511627776),1099511627776⟩,⟨false,19,(-1099511627776),1099511627776⟩,⟨false,20,0,1099511627776⟩]
 |.c3 _=>[⟨false,21,0,39⟩,⟨false,22,0,255⟩,⟨false,23,(-1099511627776),1099511627776⟩,⟨false,24,0,39⟩,⟨false,25,0,255⟩,⟨false,26,(-1099511627776),1099511627776⟩,⟨false,27,(-1099511627776),1099511627776⟩,⟨false,28,(-1099511627776),1099511627776⟩]
 |.c4 _=>[⟨false,29,1,9999⟩,⟨false,30,0,255⟩,⟨false,31,(-1099511627776),1099511627776⟩,⟨false,32,(-1099511627776),1099511627776⟩]
 |.c5 _=>[⟨false,33,0,39⟩,⟨false,34,0,255⟩,⟨false,35,(-1099511627776),1099511627776⟩,⟨false,36,(-1099511627776),1099511627776⟩]
 |.c6 _=>[⟨false,37,1,9999⟩,⟨false,38,1,9999⟩]
 |.c7 _=>[⟨false,39,1,1048576⟩,⟨false,40,1,9999⟩,⟨false,41,0,31⟩,⟨false,42,0,255⟩]
 |.c8 _=>[⟨false,43,1,1048576⟩,⟨false,44,0,9999⟩,⟨false,45,0,1125899906842624⟩,⟨false,46,0,1⟩]
 |.c9 x=>[⟨false,47,1,1048576⟩,⟨false,48,1,2⟩,⟨false,49,1,5⟩,⟨false,50,x.1,x.2.1⟩,⟨false,51,x.2.2.1,x.2.2.2.1⟩,⟨false,52,x.2.2.2.2.1,x.2.2.2.2.2⟩]
 |.c10 _=>[⟨false,53,1,1048576⟩,⟨true,0,0,1⟩]
 |.c11 _=>[]
 |.c12 _=>[⟨false,55,0,31⟩,⟨false,56,1,1048576⟩]
 |.c13 _=>[]
def fineU(f:Fact):U_facts_open_rxk->Bool
 |.c3 _=>decide (f.Sync.Min<=f.Sync.Max)
 |.c4 _=>decide (f.Hand.Lo<=f.Hand.Hi)
 |.c5 _=>decide (f.Silence.Lo<=f.Silence.Hi)
 |.c6 _=>decide (f.Pair.A<f.Pair.B)
 |.c13 _=>false
 |_=>true
def entsS(f:Fact):List Ent:=headL++bodyL (openU f)
def goodE(e:Ent):Bool:=bif e.fl then e.off==0 else decide (e.off<57)&& !(e.off==54)
theorem QhH(f:Fact):∀e∈entsS f,goodE e=true:=by
 have h:∀u:U_facts_open_rxk,(headL++bodyL u).all goodE=true:=by intro u;cases u<;>rfl
 exact List.all_eq_true.1 (h (openU f))
theorem QfO(f:Fact):(entsS f).length<=12:=by
 have h:∀u:U_facts_open_rxk,(headL++bodyL u).length<=12:=by intro u;cases u<;>exact Nat.le_of_ble_eq_true rfl
 exact h (openU f)
def isI:Option A->Bool
 |some (.int .i64 _)=>true
 |_=>false
theorem QkO{x:Option A}(h:isI x=true):∃v,x=some (.int .i64 v):=by
 unfold isI at h
 split at h
 ·exact⟨_,rfl⟩
 ·cases h
theorem QiJ{f:Fact}{b:Int}{e:Ent}(h:goodE e=true):∃v,QdV (Fact.c f) b e=some v:=by
 unfold goodE at h
 unfold QdV
 cases hf:e.fl with
 |true=>
  rw[hf]at h
  simp only[cond_true]at h⊢
  rw[h];exact⟨b,rfl⟩
 |false=>
  rw[hf]at h
  simp only[cond_false,Bool.and_eq_true,decide_eq_true_eq,Bool.not_eq_true']at h⊢
  have all:(List.range 57).all (fun o=>(o==54)||isI (Fact.c f)[o]?)=true:=by rfl
  have:=List.all_eq_true.1 all e.off (List.mem_range.2 h.1)
  rw[h.2,Bool.false_or]at this
  obtain⟨v,hv⟩:=QkO this
  rw[hv];exact⟨v,rfl⟩
theorem Qip{x:Fact}{s v:Int}{e:Ent}(h:goodE e=true):∃q,Qgt Fact.put x s e v=some q:=by
 unfold goodE at h
 unfold Qgt
 cases hf:e.fl with
 |true=>
  rw[hf]at h
  simp only[cond_true]at h⊢
  rw[h];exact⟨_,rfl⟩
 |false=>
  rw[hf]at h
  simp only[cond_false,Bool.and_eq_true,decide_eq_true_eq,Bool.not_eq_true']at h⊢
  have all:(List.range 57).all (fun o=>(o==54)||(Fact.put x o v).isSome)=true:=by rfl
  have:=List.all_eq_true.1 all e.off (List.mem_range.2 h.1)
  rw[h.2,Bool.false_or]at this
  obtain⟨y,hy⟩:=Option.isSome_iff_exists.1 this
  rw[hy];exact⟨_,rfl⟩
def getV(f:Fact)(b:Int)(e:Ent):Int:=(QdV (Fact.c f) b e).getD 0
def putV(x:Fact)(s:Int)(e:Ent)(v:Int):Fact×Int:=(Qgt Fact.put x s e v).getD (x,s)
theorem QiK{f:Fact}{b:Int}{e:Ent}(h:goodE e=true):QdV (Fact.c f) b e=some (getV f b e):=by
 obtain⟨v,hv⟩:=QiJ (f:=f) (b:=b) h
 unfold getV
 rw[hv];rfl
theorem Qks{x:Fact}{s v:Int}{e:Ent}(h:goodE e=true):Qgt Fact.put x s e v=some (putV x s e v):=by
 obtain⟨q,hq⟩:=Qip (x:=x) (s:=s) (v:=v) h
 unfold putV
 rw[hq];rfl
def inE(f:Fact)(b:Int)(e:Ent):Bool:= !(decide (getV f b e<e.lo))&& !(decide (e.hi<getV f b e))
def numR(f:Fact)(b:Int):List Ent->List Int×Fact×Int->Ctl (List Int×Fact×Int) (List Int×Bool)
 |[],a=>.cont a
 |e::r,a=>bif inE f b e then numR f b r (a.1++[getV f b e],putV a.2.1 a.2.2 e (getV f b e))else .done ([],false)
theorem Qbu{α:Type}(l m:List α)(h:l.length+m.length<=1000):app l m=some (l++m):=by
 unfold app
 have:Nat.ble (l.length+m.length) Yc=true:=Nat.ble_eq_true_of_le (Nat.le_trans h (by decide))
 rw[this];rfl
theorem QjN(f:Fact)(b:Int)(E:List Ent)(hE:∀e∈E,goodE e=true)(hl:E.length<=12):∀(r:List Ent) (i:Nat) (a:List Int×Fact×Int),E.drop i=r->i<=E.length->a.1.length=i->
  EvI (fun n=>F_bt n f b E E) (a.1,a.2.1,a.2.2,(i:Int)) (numR f b r a):=by
 intro r
 induction r with
 |nil=>
  intro i a hr hi ha
  refine EvI.done ?_
  unfold F_bt
  simp only[QfP hr hi,cond_false]
  exact Qd _
 |cons e r ih=>
  intro i a hr hi hal
  obtain⟨ha,hr'⟩:=QbY (by omega) hr
  have hg:=hE e ha.mem
  have hlt:=ha.lt'
  unfold numR
  cases hin:inE f b e with
  |true=>
   have h2:=hin
   unfold inE at h2
   simp only[Bool.and_eq_true,Bool.not_eq_true']at h2
   refine EvI.cont ?_ (ih (i+1) (a.1++[getV f b e],putV a.2.1 a.2.2 e (getV f b e)) hr' (by omega) (by simp[hal]))
   unfold F_bt
   simp only[ha.lt,cond_true,ha.ix,Option.bind_some,ha.nx,QiK hg,h2.1,h2.2,cond_false,Qks hg]
   rw[Qbu a.1 [getV f b e] (by simp;omega)]
   exact Qd _
  |false=>
   refine EvI.done ?_
   unfold F_bt
   simp only[ha.lt,cond_true,ha.ix,Option.bind_some,QiK hg]
   unfold inE at hin
   cases h1:decide (getV f b e<e.lo)with
   |true=>exact Qd _
   |false=>
    rw[h1]at hin
    simp only[Bool.not_false,Bool.true_and,Bool.not_eq_false']at hin
    simp only[cond_false,hin,cond_true]
    exact Qd _
def suspB(f:Fact):Int:=bif f.Appeal.Suspends then 1 else 0
def restS(f:Fact):Fact:={z_Fact with Ruling:={z_Ruling with Kind:=f.Ruling.Kind:Ruling},Kind:=f.Kind:Fact}
def lastF(f x:Fact)(s:Int):Fact:=
 let y:Fact:=bif f.Kind != 10 then {x with Ruling:={x.Ruling with Kind:=0:Ruling}:Fact}else x
 {y with Appeal:={Case:=y.Appeal.Case,Suspends:=s==1:Appeal}:Fact}
def numF(f:Fact):List Int×Bool:=bif fineU f (openU f)then(match numR f (suspB f) (entsS f) ([],restS f,0)with
  |.cont a=>(a.1,lastF f a.2.1 a.2.2==f)
  |.done r=>r)else([],false)
theorem QhK(n:Nat)(f:Fact):F_ar n ({z_Fact with Ruling:={z_Ruling with Kind:=f.Ruling.Kind:Ruling}:Fact}) 0 f=some (entsS f):=by
 have hu:openU ({({z_Fact with Ruling:={z_Ruling with Kind:=f.Ruling.Kind:Ruling}:Fact})with Kind:=f.Kind:Fact})=openU f:=rfl
 unfold F_ar entsS
 rw[Qha]
 simp only[Option.bind_some]
 rw[hu]
 unfold F_aj
 generalize openU f=u
 cases u<;>(simp only[Option.bind_some];unfold bodyL;exact congrArg (Option.bind · _) (Qbu _ _ (by simp)))
theorem QjU(f:Fact):Ev (fun n=>F_bf n f) (numF f):=by
 unfold F_bf
 refine Ev.bind (v:=suspB f) ?_ ?_
 ·unfold suspB
  cases f.Appeal.Suspends<;>exact Qd _
 refine Ev.bind (v:=bif fineU f (openU f)then .cont (bodyL (openU f))else .done ([],false)) ?_ ?_
 ·simp only[Qha,Option.bind_some]
  unfold F_d F_by F_bo F_bj F_br
  generalize openU f=u
  cases u with
  |c3=>unfold fineU;cases decide (f.Sync.Min<=f.Sync.Max)<;>exact Qd _
  |c4=>unfold fineU;cases decide (f.Hand.Lo<=f.Hand.Hi)<;>exact Qd _
  |c5=>unfold fineU;cases decide (f.Silence.Lo<=f.Silence.Hi)<;>exact Qd _
  |c6=>unfold fineU;cases decide (f.Pair.A<f.Pair.B)<;>exact Qd _
  |_=>exact Qd _
 unfold numF
 cases fineU f (openU f)with
 |false=>exact Qd _
 |true=>
  simp only[cond_true]
  have e:app headL (bodyL (openU f))=some (entsS f):=Qbu _ _ (by have:=QfO f;unfold entsS at this;rw[List.length_append]at this;omega)
  unfold F_aj
  simp only[Option.bind_some]
  refine Ev.bind (Ev.const e) ?_
  refine Ev.bind (Ev.const (QhK 0 f)) ?_
  refine Ev.bind (QjN f (suspB f) (entsS f) (QhH f) (QfO f) (entsS f) 0 ([],restS f,0) rfl (Nat.zero_le _) rfl).ev ?_
  cases numR f (suspB f) (entsS f) ([],restS f,0)with
  |done r=>exact Qd _
  |cont a=>
   simp only
   refine Ev.bind (v:=bif f.Kind != 10 then {a.2.1 with Ruling:={a.2.1.Ruling with Kind:=0:Ruling}:Fact}else a.2.1) ?_ (Qd _)
   cases(f.Kind != 10)<;>exact Qd _
def validS(f:Fact):Bool:=(numF f).2
theorem QdY(f:Fact):Ev (fun n=>F_ao n f) (bif validS f then 0 else 120):=by
 unfold F_ao
 refine Ev.bind (QjU f) ?_
 unfold validS
 cases(numF f).2<;>exact Qd _
theorem Qge{f:Fact}(h:validS f=true):(f.Kind==0)=false:=by
 cases q:(f.Kind==0)with
 |false=>rfl
 |true=>
  have hk:f.Kind=0:=by simpa using q
  have hu:openU f=.c13 ():=by unfold openU;rw[hk];rfl
  unfold validS numF at h
  rw[hu]at h
  cases h
set_option maxRecDepth 4000
def numN(v:Nat):List Int:=if h:128<=v then orI .u8 (IntKind.u8.wrap (v:Int)) 128::numN (v/128)else[IntKind.u8.wrap (v:Int)]
termination_by v
decreasing_by omega
theorem QfA{v:Nat}(h:128<=v):numN v=orI .u8 (IntKind.u8.wrap (v:Int)) 128::numN (v/128):=by
 rw[numN,dif_pos h]
theorem QaB{v:Nat}(h:¬128<=v):numN v=[IntKind.u8.wrap (v:Int)]:=by
 rw[numN,dif_neg h]
theorem Qfz:∀(k v:Nat),v<128^(k+1)->(numN v).length<=k+1:=by
 intro k
 induction k with
 |zero=>
  intro v hv
  rw[QaB (by omega)]
  simp
 |succ k ih=>
  intro v hv
  by_cases h:128<=v
  ·rw[QfA h,List.length_cons]
   have:=ih (v/128) (by rw[Nat.div_lt_iff_lt_mul (by decide)];rw[Nat.pow_succ]at hv;exact hv)
   omega
  ·rw[QaB h];simp
theorem QbP{v:Nat}(hv:v<18446744073709551616):(numN v).length<=10:=Qfz 9 v (Nat.lt_of_lt_of_le hv (by decide))
def zigI(x:Int):Int:=Qic .u64 (shlI .u64 (IntKind.u64.wrap x) 1) (IntKind.u64.wrap (shrI .i64 x 63))
theorem wrapU(x:Int):0<=IntKind.u64.wrap x/\IntKind.u64.wrap x<18446744073709551616:=by
 have e:IntKind.u64.wrap x=x%18446744073709551616:=by
  unfold IntKind.wrap
  rfl
 rw[e]
 omega
theorem Qeu(x:Int):∃z:Nat,zigI x=(z:Int)/\z<18446744073709551616:=by
 have h:=wrapU ((BitVec.ofInt IntKind.u64.bits (shlI .u64 (IntKind.u64.wrap x) 1)^^^BitVec.ofInt IntKind.u64.bits (IntKind.u64.wrap (shrI .i64 x 63))).toNat)
 refine⟨(zigI x).toNat,?_,?_⟩
 ·unfold zigI Qic;omega
 ·unfold zigI Qic;omega
def oneB(x:Int):List Int:=1::numN (zigI x).toNat
theorem Qfw(x:Int):(oneB x).length<=11:=by
 obtain⟨z,h1,h2⟩:=Qeu x
 unfold oneB
 rw[h1]
 have:=QbP h2
 simp;omega
def mkV(x:Int):Value:={Kind:=1,N:=x,S:=[],L:=[]:Value}
def listV(l:List Int):Value:={Kind:=3,N:=0,S:=[],L:=l.map mkV:Value}
def listB(l:List Int):List Int:=[3]++numN l.length++(l.map oneB).flatten
def encF(f:Fact):List Int×Int:=bif validS f then(listB (numF f).1,0)else([],120)
def cmpI(a b:Int):Int:=bif decide (a<b)then-1 else bif decide (b<a)then 1 else 0
def orL:List Int->Int
 |[]=>0
 |x::r=>bif x != 0 then x else orL r
def cmpF(f g:Fact):Int:=bif orL [cmpI f.At g.At,cmpI f.Crew g.Crew,cmpI f.No g.No] != 0 then orL [cmpI f.At g.At,cmpI f.Crew g.Crew,cmpI f.No g.No]else cmpB (encF f).1 (encF g).1
set_option maxRecDepth 4000
theorem QjM(f:Fact)(b:Int):∀(E:List Ent) (a:List Int×Fact×Int),numR f b E a=bif E.all (inE f b)then .cont (a.1++E.map (getV f b),E.foldl (fun p e=>putV p.1 p.2 e (getV f b e)) a.2)else .done ([],false):=by
 intro E
 induction E with
 |nil=>intro a;simp[numR]
 |cons e E ih=>
  intro a
  unfold numR
  rw[List.all_cons]
  cases h:inE f b e with
  |false=>rfl
  |true=>
   simp only[cond_true,Bool.true_and,List.map_cons,List.foldl_cons]
   rw[ih]
   simp
def onlyS(f:Fact):Fact:={Crew:=f.Crew,No:=f.No,At:=f.At,Kind:=f.Kind,Starter:=(bif f.Kind==1 then f.Starter else z_Fact.Starter),Read:=(bif f.Kind==2 then f.Read else z_Fact.Read),Beacon:=(bif f.Kind==3 then f.Beacon else z_Fact.Beacon),Sync:=(bif f.Kind==4 then f.Sync else z_Fact.Sync),Hand:=(bif f.Kind==5 then f.Hand else z_Fact.Hand),Silence:=(bif f.Kind==6 then f.Silence else z_Fact.Silence),Pair:=(bif f.Kind==7 then f.Pair else z_Fact.Pair),Report:=(bif f.Kind==8 then f.Report else z_Fact.Report),Protest:=(bif f.Kind==9 then f.Protest else z_Fact.Protest),Ruling:=(bif f.Kind==10 then f.Ruling else z_Fact.Ruling),Appeal:=(bif f.Kind==11 then f.Appeal else z_Fact.Appeal),Void:=(bif f.Kind==13 then f.Void else z_Fact.Void):Fact}
def numsS(f:Fact):List Int:=[f.Kind,f.Crew,f.No,f.At]++(
 bif f.Kind==1 then[f.Starter.Bib,f.Starter.Distance,f.Starter.Wave,f.Starter.Slot,f.Starter.Age,f.Starter.Chip,f.Starter.Team,f.Starter.Lot]
 else bif f.Kind==2 then[f.Read.Mat,f.Read.Epoch,f.Read.Chip,f.Read.Local]
 else bif f.Kind==3 then[f.Beacon.Mat,f.Beacon.Epoch,f.Beacon.Local,f.Beacon.True,f.Beacon.Err]
 else bif f.Kind==4 then[f.Sync.MatA,f.Sync.EpochA,f.Sync.LocalA,f.Sync.MatB,f.Sync.EpochB,f.Sync.LocalB,f.Sync.Min,f.Sync.Max]
 else bif f.Kind==5 then[f.Hand.Bib,f.Hand.Position,f.Hand.Lo,f.Hand.Hi]
 else bif f.Kind==6 then[f.Silence.Mat,f.Silence.Epoch,f.Silence.Lo,f.Silence.Hi]
 else bif f.Kind==7 then[f.Pair.A,f.Pair.B]
 else bif f.Kind==8 then[f.Report.Case,f.Report.Bib,f.Report.Offence,f.Report.Position]
 else bif f.Kind==9 then[f.Protest.Case,f.Protest.By,f.Protest.Fee,f.Protest.Form]
 else bif f.Kind==10 then[f.Ruling.Case,f.Ruling.Instance,f.Ruling.Kind,f.Ruling.Bib,f.Ruling.Position,f.Ruling.Amount]
 else bif f.Kind==11 then[f.Appeal.Case,suspB f]
 else bif f.Kind==13 then[f.Void.Crew,f.Void.No]else[])
theorem kinds(f:Fact):f.Kind=1\/f.Kind=2\/f.Kind=3\/f.Kind=4\/f.Kind=5\/f.Kind=6\/f.Kind=7\/f.Kind=8\/f.Kind=9\/f.Kind=10\/f.Kind=11\/f.Kind=12\/f.Kind=13\/openU f=.c13 ():=by
 by_cases h1:f.Kind=1; · exact .inl h1
 by_cases h2:f.Kind=2; · exact .inr (.inl h2)
 by_cases h3:f.Kind=3; · exact .inr (.inr (.inl h3))
 by_cases h4:f.Kind=4; · exact .inr (.inr (.inr (.inl h4)))
 by_cases h5:f.Kind=5; · exact .inr (.inr (.inr (.inr (.inl h5))))
 by_cases h6:f.Kind=6; · exact .inr (.inr (.inr (.inr (.inr (.inl h6)))))
 by_cases h7:f.Kind=7; · exact .inr (.inr (.inr (.inr (.inr (.inr (.inl h7))))))
 by_cases h8:f.Kind=8; · exact .inr (.inr (.inr (.inr (.inr (.inr (.inr (.inl h8)))))))
 by_cases h9:f.Kind=9; · exact .inr (.inr (.inr (.inr (.inr (.inr (.inr (.inr (.inl h9))))))))
 by_cases h10:f.Kind=10; · exact .inr (.inr (.inr (.inr (.inr (.inr (.inr (.inr (.inr (.inl h10)))))))))
 by_cases h11:f.Kind=11; · exact .inr (.inr (.inr (.inr (.inr (.inr (.inr (.inr (.inr (.inr (.inl h11))))))))))
 by_cases h12:f.Kind=12; · exact .inr (.inr (.inr (.inr (.inr (.inr (.inr (.inr (.inr (.inr (.inr (.inl h12)))))))))))
 by_cases h13:f.Kind=13; · exact .inr (.inr (.inr (.inr (.inr (.inr (.inr (.inr (.inr (.inr (.inr (.inr (.inl h13))))))))))))
 refine .inr (.inr (.inr (.inr (.inr (.inr (.inr (.inr (.inr (.inr (.inr (.inr (.inr ?_))))))))))))
 unfold openU
 simp only[beq_eq_false_iff_ne.2 h1,beq_eq_false_iff_ne.2 h2,beq_eq_false_iff_ne.2 h3,beq_eq_false_iff_ne.2 h4,beq_eq_false_iff_ne.2 h5,beq_eq_false_iff_ne.2 h6,beq_eq_false_iff_ne.2 h7,beq_eq_false_iff_ne.2 h8,beq_eq_false_iff_ne.2 h9,beq_eq_false_iff_ne.2 h10,beq_eq_false_iff_ne.2 h11,beq_eq_false_iff_ne.2 h12,beq_eq_false_iff_ne.2 h13,cond_false]
def copyS(f:Fact):Fact×Int:=(entsS f).foldl (fun p e=>putV p.1 p.2 e (getV f (suspB f) e)) (restS f,0)
theorem QeF(f:Fact):numF f=bif fineU f (openU f)then(bif (entsS f).all (inE f (suspB f))then((entsS f).map (getV f (suspB f)),lastF f (copyS f).1 (copyS f).2==f)else([],false))else([],false):=by
 unfold numF
 rw[QjM]
 cases fineU f (openU f)with
 |false=>rfl
 |true=>
  simp only[cond_true]
  cases(entsS f).all (inE f (suspB f))with
  |false=>rfl
  |true=>simp only[cond_true,List.nil_append];rfl
theorem Qcy(f:Fact)(h:¬openU f=.c13 ()):lastF f (copyS f).1 (copyS f).2=onlyS f/\(entsS f).map (getV f (suspB f))=numsS f:=by
 rcases kinds f with k|k|k|k|k|k|k|k|k|k|k|k|k|k
 case inr.inr.inr.inr.inr.inr.inr.inr.inr.inr.inl=>
  obtain⟨Cr,No,At,Ki,S,R,B,Sy,Ha,Si,Pa,Re,Pr,Ru,⟨Ca,Su⟩,Vo⟩:=f
  simp only at k
  subst k
  cases Su<;>exact⟨by kernel_rfl,by kernel_rfl⟩
 case inr.inr.inr.inr.inr.inr.inr.inr.inr.inl=>
  obtain⟨Cr,No,At,Ki,S,R,B,Sy,Ha,Si,Pa,Re,Pr,⟨r1,r2,r3,r4,r5,r6⟩,Ap,Vo⟩:=f
  simp only at k
  subst k
  have:∃x,openU ⟨Cr,No,At,10,S,R,B,Sy,Ha,Si,Pa,Re,Pr,⟨r1,r2,r3,r4,r5,r6⟩,Ap,Vo⟩=.c9 x:=by
   unfold openU
   show∃x,(bif (r3==1)||(r3==2)then U_facts_open_rxk.c9 (0,0,0,0,0,0)else bif r3==3 then .c9 (1,9999,0,255,1,1099511627776)else bif r3==4 then .c9 (1,9999,0,255,1,64)else .c9 (1,9999,0,255,0,0))=.c9 x
   cases((r3==1)||(r3==2))with
   |true=>exact⟨_,rfl⟩
   |false=>
    cases(r3==3)with
    |true=>exact⟨_,rfl⟩
    |false=>cases(r3==4)<;>exact⟨_,rfl⟩
  obtain⟨x,hx⟩:=this
  unfold copyS entsS
  rw[hx]
  exact⟨by kernel_rfl,by kernel_rfl⟩
 case inr.inr.inr.inr.inr.inr.inr.inr.inr.inr.inr.inr.inr=>exact absurd k h
 all_goals
  obtain⟨Cr,No,At,Ki,S,R,B,Sy,Ha,Si,Pa,Re,Pr,Ru,Ap,Vo⟩:=f
  simp only at k
  subst k
  exact⟨by kernel_rfl,by kernel_rfl⟩
def contS(f:Fact):Bool:=fineU f (openU f)&&(bodyL (openU f)).all (inE f (suspB f))
def headS(f:Fact):Bool:=headL.all (inE f (suspB f))
theorem Qcr(f:Fact):validS f=(headS f&&contS f&&(onlyS f==f)):=by
 unfold validS contS headS
 rw[QeF]
 by_cases h:openU f=.c13 ()
 ·have:fineU f (openU f)=false:=by rw[h];rfl
  rw[this]
  simp
 ·obtain⟨h1,h2⟩:=Qcy f h
  rw[h1]
  unfold entsS
  rw[List.all_append]
  cases fineU f (openU f)with
  |false=>simp
  |true=>
   cases headL.all (inE f (suspB f))with
   |false=>rfl
   |true=>cases(bodyL (openU f)).all (inE f (suspB f))<;>rfl
theorem Qgd{f:Fact}(h:validS f=true):(numF f).1=numsS f:=by
 have hv:=h
 unfold validS at h
 rw[QeF]at h⊢
 by_cases q:openU f=.c13 ()
 ·have:fineU f (openU f)=false:=by rw[q];rfl
  rw[this]at h;cases h
 ·obtain⟨h1,h2⟩:=Qcy f q
  cases a:fineU f (openU f)with
  |false=>rw[a]at h;cases h
  |true=>
   rw[a]at h
   cases b:(entsS f).all (inE f (suspB f))with
   |false=>rw[b]at h;cases h
   |true=>exact h2
theorem Qdh{f:Fact}(h:validS f=true):onlyS f=f:=by
 rw[Qcr]at h
 simp only[Bool.and_eq_true,beq_iff_eq]at h
 exact h.2
theorem QiB{f g:Fact}(hf:validS f=true)(hg:validS g=true)(h:numsS f=numsS g):f=g:=by
 have e1:=Qdh hf
 have e2:=Qdh hg
 rw[<- e1, <- e2]
 unfold numsS at h
 have hk:f.Kind=g.Kind:=by
  simp only[List.cons_append,List.cons.injEq]at h
  exact h.1
 have nk:=Qge hf
 rcases kinds f with k|k|k|k|k|k|k|k|k|k|k|k|k|k
 case inr.inr.inr.inr.inr.inr.inr.inr.inr.inr.inr.inr.inr=>
  rw[Qcr]at hf
  unfold contS at hf
  rw[k]at hf
  simp[fineU]at hf
 all_goals
  have k2:=hk.symm.trans k
  clear hf hg hk nk e1 e2
  obtain⟨Cr,No,At,Ki,⟨s1,s2,s3,s4,s5,s6,s7,s8⟩,⟨rd1,rd2,rd3,rd4⟩,⟨b1,b2,b3,b4,b5⟩,⟨y1,y2,y3,y4,y5,y6,y7,y8⟩,⟨h1,h2,h3,h4⟩,⟨i1,i2,i3,i4⟩,⟨p1,p2⟩,⟨u1,u2,u3,u4⟩,⟨o1,o2,o3,o4⟩,⟨r1,r2,r3,r4,r5,r6⟩,⟨a1,a2⟩,⟨v1,v2⟩⟩:=f
  obtain⟨Cr',No',At',Ki',⟨s1',s2',s3',s4',s5',s6',s7',s8'⟩,⟨rd1',rd2',rd3',rd4'⟩,⟨b1',b2',b3',b4',b5'⟩,⟨y1',y2',y3',y4',y5',y6',y7',y8'⟩,⟨h1',h2',h3',h4'⟩,⟨i1',i2',i3',i4'⟩,⟨p1',p2'⟩,⟨u1',u2',u3',u4'⟩,⟨o1',o2',o3',o4'⟩,⟨r1',r2',r3',r4',r5',r6'⟩,⟨a1',a2'⟩,⟨v1',v2'⟩⟩:=g
  simp only at k k2
  subst k
  subst k2
  first
   |(simp[suspB]at h;simp[onlyS,h];done)
   |(cases a2<;>cases a2'<;>simp[suspB]at h<;>simp[onlyS,h])
set_option maxRecDepth 4000
theorem QaY(x:Int):IntKind.u64.wrap x=x%18446744073709551616:=by unfold IntKind.wrap;rfl
theorem Qev(x:Int):IntKind.u8.wrap x=x%256:=by unfold IntKind.wrap;rfl
theorem or8(a b:Int):orI .u8 a b=(((BitVec.ofInt 8 a|||BitVec.ofInt 8 b).toNat:Nat):Int)%256:=by unfold orI;exact Qev _
theorem Qj7(a b:Int):Qic .u64 a b=(((BitVec.ofInt 64 a^^^BitVec.ofInt 64 b).toNat:Nat):Int)%18446744073709551616:=by unfold Qic;exact QaY _
theorem or128(v:Nat):orI .u8 (IntKind.u8.wrap (v:Int)) 128=((v%128+128:Nat):Int):=by
 have key:∀m:Fin 256,((BitVec.ofNat 8 m.val|||128#8).toNat)=m.val%128+128:=by decide
 have hm:v%256<256:=Nat.mod_lt _ (by decide)
 have k:(BitVec.ofNat 8 (v%256)|||128#8).toNat=v%256%128+128:=key ⟨v%256,hm⟩
 have e:BitVec.ofInt 8 ((v:Int)%256)=BitVec.ofNat 8 (v%256):=by
  have:((v:Int)%256)=((v%256:Nat):Int):=by omega
  rw[this]
  exact BitVec.ofInt_natCast 8 (v%256)
 have e2:BitVec.ofInt 8 128=128#8:=by rfl
 rw[or8,Qev,e,e2,k]
 omega
theorem Qbs(v:Nat):numN v=if 128<=v then((v%128+128:Nat):Int)::numN (v/128)else[(v:Int)]:=by
 by_cases h:128<=v
 ·rw[QfA h,if_pos h,or128]
 ·rw[QaB h,if_neg h,Qev]
  congr 1
  omega
theorem Qfy:∀(v w:Nat) (a b:List Int),numN v++a=numN w++b->v=w/\a=b:=by
 intro v
 induction v using Nat.strongRecOn with
 |_ v ih=>
 intro w a b h
 rw[Qbs v,Qbs w]at h
 by_cases hv:128<=v
 ·rw[if_pos hv]at h
  by_cases hw:128<=w
  ·rw[if_pos hw]at h
   simp only[List.cons_append,List.cons.injEq]at h
   obtain⟨h1,h2⟩:=ih (v/128) (by omega) (w/128) a b h.2
   exact⟨by omega,h2⟩
  ·rw[if_neg hw]at h
   simp only[List.cons_append,List.cons.injEq]at h
   omega
 ·rw[if_neg hv]at h
  by_cases hw:128<=w
  ·rw[if_pos hw]at h
   simp only[List.cons_append,List.cons.injEq]at h
   omega
  ·rw[if_neg hw]at h
   simp only[List.cons_append,List.cons.injEq,List.nil_append]at h
   exact⟨by omega,h.2⟩
theorem Qds:∀(v:Nat),∀x∈numN v,0<=x/\x<256:=by
 intro v
 induction v using Nat.strongRecOn with
 |_ v ih=>
 intro x hx
 rw[Qbs v]at hx
 by_cases hv:128<=v
 ·rw[if_pos hv]at hx
  rcases List.mem_cons.1 hx with rfl|hx
  ·omega
  ·exact ih (v/128) (by omega) x hx
 ·rw[if_neg hv]at hx
  rcases List.mem_cons.1 hx with rfl|hx
  ·omega
  ·cases hx
theorem Qc3{x:Int}(h0:0<=x)(h1:x<9223372036854775808):zigI x=2*x:=by
 unfold zigI shlI
 have e1:shrI .i64 x 63=0:=by
  show Int.fdiv x (2^63)=0
  rw[Int.fdiv_eq_ediv_of_nonneg _ (by decide)]
  omega
 have e2:(2:Int)^(min (1:Int).toNat IntKind.u64.bits)=2:=by decide
 rw[e1,e2,Qj7]
 simp only[QaY]
 have e3:BitVec.ofInt 64 ((0:Int)%18446744073709551616)=0#64:=by rfl
 rw[e3,BitVec.xor_zero,BitVec.toNat_ofInt]
 omega
theorem Qc4{x:Int}(h0:x<0)(h1: -9223372036854775808<=x):zigI x= -2*x-1:=by
 unfold zigI shlI
 have e1:shrI .i64 x 63= -1:=by
  show Int.fdiv x (2^63)= -1
  rw[Int.fdiv_eq_ediv_of_nonneg _ (by decide)]
  omega
 have e2:(2:Int)^(min (1:Int).toNat IntKind.u64.bits)=2:=by decide
 rw[e1,e2,Qj7]
 simp only[QaY]
 have e3:BitVec.ofInt 64 ((-1:Int)%18446744073709551616)=BitVec.allOnes 64:=by decide
 rw[e3,BitVec.xor_allOnes,BitVec.toNat_not,BitVec.toNat_ofInt]
 omega
def in63(x:Int):Prop:= -9223372036854775808<=x/\x<9223372036854775808
theorem QjD{x y:Int}(hx:in63 x)(hy:in63 y)(h:zigI x=zigI y):x=y:=by
 obtain⟨a,b⟩:=hx
 obtain⟨c,d⟩:=hy
 by_cases p:0<=x
 ·rw[Qc3 p b]at h
  by_cases q:0<=y
  ·rw[Qc3 q d]at h;omega
  ·rw[Qc4 (by omega) c]at h;omega
 ·rw[Qc4 (by omega) a]at h
  by_cases q:0<=y
  ·rw[Qc3 q d]at h;omega
  ·rw[Qc4 (by omega) c]at h;omega
theorem Qfv:∀(l m:List Int),l.length=m.length->(∀x∈l,in63 x)->(∀x∈m,in63 x)->(l.map oneB).flatten=(m.map oneB).flatten->l=m
 |[],[],_,_,_,_=>rfl
 |x::l,y::m,hl,h1,h2,h=>by
  simp only[List.map_cons,List.flatten_cons,oneB,List.cons_append,List.cons.injEq,true_and]at h
  obtain⟨e1,e2⟩:=Qfy _ _ _ _ h
  obtain⟨z,p1,p2⟩:=Qeu x
  obtain⟨z',q1,q2⟩:=Qeu y
  rw[p1,q1]at e1
  have:x=y:=QjD (h1 x (by simp)) (h2 y (by simp)) (by rw[p1,q1]at*;simp only[Int.toNat_natCast]at e1;omega)
  rw[this,Qfv l m (by simpa using hl) (fun z hz=>h1 z (by simp[hz])) (fun z hz=>h2 z (by simp[hz])) e2]
theorem QhB{l m:List Int}(h1:∀x∈l,in63 x)(h2:∀x∈m,in63 x)(h:listB l=listB m):l=m:=by
 unfold listB at h
 rw[List.append_assoc,List.append_assoc]at h
 simp only[List.cons_append,List.nil_append,List.cons.injEq,true_and]at h
 obtain⟨e1,e2⟩:=Qfy _ _ _ _ h
 exact Qfv l m e1 h1 h2 e2
theorem QcN(l:List Int):∀x∈listB l,0<=x/\x<256:=by
 intro x hx
 unfold listB at hx
 simp only[List.mem_append,List.mem_singleton,List.mem_flatten,List.mem_map]at hx
 rcases hx with(rfl|hx)|⟨m,⟨y,_,rfl⟩,hx⟩
 ·omega
 ·exact Qds _ x hx
 ·unfold oneB at hx
  rcases List.mem_cons.1 hx with rfl|hx
  ·omega
  ·exact Qds _ x hx
structure CmpOK {α:Type} (c:α->α->Int):Prop where
 swap:∀x y,c y x= -c x y
 trans:∀x y z,c x y<0->c y z<0->c x z<0
 eqt:∀x y z,c x y=0->c x z=c y z
section
variable {α:Type}{c d:α->α->Int}
theorem CmpOK.refl(h:CmpOK c)(x:α):c x x=0:=by have:=h.swap x x;omega
theorem CmpOK.eqr(h:CmpOK c){x y:α}(z:α)(e:c x y=0):c z x=c z y:=by
 rw[h.swap x z,h.swap y z,h.eqt x y z e]
theorem QcH(h:CmpOK c)(k:CmpOK d):CmpOK fun x y=>bif c x y != 0 then c x y else d x y:=by
 refine⟨fun x y=>?_,fun x y z=>?_,fun x y z=>?_⟩
 ·show(bif c y x != 0 then c y x else d y x)= -(bif c x y != 0 then c x y else d x y)
  have e:=h.swap x y
  by_cases q:c x y=0
  ·have q2:c y x=0:=by omega
   rw[q,q2];exact k.swap x y
  ·have q2:¬c y x=0:=by omega
   rw[bne_iff_ne.2 q,bne_iff_ne.2 q2];exact e
 ·show(bif c x y != 0 then c x y else d x y)<0->(bif c y z != 0 then c y z else d y z)<0->(bif c x z != 0 then c x z else d x z)<0
  by_cases q:c x y=0
  ·have e:=h.eqt x y z q
   rw[q,e]
   by_cases q2:c y z=0
   ·rw[q2];exact k.trans x y z
   ·rw[bne_iff_ne.2 q2]
    intro _ b;exact b
  ·rw[bne_iff_ne.2 q]
   by_cases q2:c y z=0
   ·have e:=h.eqr x q2
    rw[q2, <- e,bne_iff_ne.2 q]
    intro a _;exact a
   ·rw[bne_iff_ne.2 q2]
    intro a b
    have:=h.trans x y z a b
    rw[bne_iff_ne.2 (show¬c x z=0 by omega)]
    exact this
 ·show(bif c x y != 0 then c x y else d x y)=0->(bif c x z != 0 then c x z else d x z)=(bif c y z != 0 then c y z else d y z)
  by_cases q:c x y=0
  ·rw[q,h.eqt x y z q]
   intro e
   have e:d x y=0:=e
   rw[k.eqt x y z e]
  ·rw[bne_iff_ne.2 q]
   intro e;exact absurd e q
theorem CmpOK.on{β:Type}(h:CmpOK c)(f:β->α):CmpOK fun x y=>c (f x) (f y):=
 ⟨fun x y=>h.swap _ _,fun x y z=>h.trans _ _ _,fun x y z=>h.eqt _ _ _⟩
end
theorem cmpI_ok:CmpOK cmpI:=by
 have e:∀a b,cmpI a b=if a<b then-1 else if b<a then 1 else 0:=by
  intro a b
  unfold cmpI
  by_cases h:a<b
  ·rw[decide_eq_true h,if_pos h];rfl
  ·rw[decide_eq_false h,if_neg h]
   by_cases h2:b<a
   ·rw[decide_eq_true h2,if_pos h2];rfl
   ·rw[decide_eq_false h2,if_neg h2];rfl
 refine⟨fun x y=>?_,fun x y z=>?_,fun x y z=>?_⟩
 ·rw[e,e];split<;>split<;>omega
 ·rw[e,e,e]
  intro a b
  have h1:x<y:=by
   by_cases q:x<y
   ·exact q
   ·rw[if_neg q]at a;split at a<;>omega
  have h2:y<z:=by
   by_cases q:y<z
   ·exact q
   ·rw[if_neg q]at b;split at b<;>omega
  rw[if_pos (by omega)];omega
 ·rw[e x y]
  intro h
  have:x=y:=by
   by_cases q:x<y
   ·rw[if_pos q]at h;omega
   ·rw[if_neg q]at h;split at h<;>omega
  rw[this]
theorem cb_ok:CmpOK Lib.compareBytes:=by
 have sw:∀x y:List UInt8,Lib.compareBytes y x= -Lib.compareBytes x y:=by
  intro x
  induction x with
  |nil=>intro y;cases y<;>simp[Lib.compareBytes]
  |cons a x ih=>
   intro y
   cases y with
   |nil=>simp[Lib.compareBytes]
   |cons b y=>
    unfold Lib.compareBytes
    by_cases h:a<b
    ·have h':¬b<a:=by rw[UInt8.lt_iff_toNat_lt]at*;omega
     rw[if_pos h,if_neg h',if_pos h];rfl
    ·rw[if_neg h]
     by_cases h2:b<a
     ·rw[if_pos h2,if_neg h,if_pos h2]
     ·rw[if_neg h2,if_neg h2,if_neg h];exact ih y
 have eq:∀x y:List UInt8,Lib.compareBytes x y=0->x=y:=by
  intro x
  induction x with
  |nil=>intro y h;cases y with
   |nil=>rfl
   |cons b y=>simp[Lib.compareBytes]at h
  |cons a x ih=>
   intro y h
   cases y with
   |nil=>simp[Lib.compareBytes]at h
   |cons b y=>
    unfold Lib.compareBytes at h
    by_cases q:a<b
    ·rw[if_pos q]at h;omega
    ·rw[if_neg q]at h
     by_cases q2:b<a
     ·rw[if_pos q2]at h;omega
     ·rw[if_neg q2]at h
      have:a=b:=by
       rw[UInt8.lt_iff_toNat_lt]at q q2
       exact UInt8.toNat_inj.1 (by omega)
      rw[this,ih y h]
 refine⟨sw,?_,fun x y z h=>by rw[eq x y h]⟩
 intro x
 induction x with
 |nil=>
  intro y z h k
  cases y with
  |nil=>simp[Lib.compareBytes]at h
  |cons b y=>cases z with
   |nil=>simp[Lib.compareBytes]at k
   |cons d z=>simp[Lib.compareBytes]
 |cons a x ih=>
  intro y z h k
  cases y with
  |nil=>simp[Lib.compareBytes]at h
  |cons b y=>
   cases z with
   |nil=>simp[Lib.compareBytes]at k
   |cons d z=>
    unfold Lib.compareBytes at h k⊢
    simp only[UInt8.lt_iff_toNat_lt]at*
    by_cases q:a.toNat<b.toNat
    ·by_cases r:b.toNat<d.toNat
     ·rw[if_pos (by omega)];omega
     ·rw[if_neg r]at k
      by_cases r2:d.toNat<b.toNat
      ·rw[if_pos r2]at k;omega
      ·rw[if_pos (by omega)];omega
    ·rw[if_neg q]at h
     by_cases q2:b.toNat<a.toNat
     ·rw[if_pos q2]at h;omega
     ·rw[if_neg q2]at h
      by_cases r:b.toNat<d.toNat
      ·rw[if_pos (by omega)];omega
      ·rw[if_neg r]at k
       by_cases r2:d.toNat<b.toNat
       ·rw[if_pos r2]at k;omega
       ·rw[if_neg r2]at k
        rw[if_neg (by omega),if_neg (by omega)]
        exact ih y z h k
theorem Qi3:∀{x y:List UInt8},Lib.compareBytes x y=0->x=y
 |[],[],_=>rfl
 |[],_::_,h=>by simp[Lib.compareBytes]at h
 |_::_,[],h=>by simp[Lib.compareBytes]at h
 |a::x,b::y,h=>by
  unfold Lib.compareBytes at h
  by_cases q:a<b
  ·rw[if_pos q]at h;omega
  ·rw[if_neg q]at h
   by_cases q2:b<a
   ·rw[if_pos q2]at h;omega
   ·rw[if_neg q2]at h
    have:a=b:=by
     rw[UInt8.lt_iff_toNat_lt]at q q2
     exact UInt8.toNat_inj.1 (by omega)
    rw[this,Qi3 h]
theorem Qen:∀{l m:List Int},(∀x∈l,0<=x/\x<256)->(∀x∈m,0<=x/\x<256)->l.map QH=m.map QH->l=m
 |[],[],_,_,_=>rfl
 |[],_::_,_,_,h=>by simp at h
 |_::_,[],_,_,h=>by simp at h
 |x::l,y::m,h1,h2,h=>by
  simp only[List.map_cons,List.cons.injEq]at h
  have a1:=h1 x (by simp)
  have a2:=h2 y (by simp)
  have e:=congrArg UInt8.toNat h.1
  unfold QH at e
  rw[UInt8.toNat_ofNat',UInt8.toNat_ofNat']at e
  have:x=y:=by omega
  rw[this,Qen (fun z hz=>h1 z (by simp[hz])) (fun z hz=>h2 z (by simp[hz])) h.2]
theorem QdE(f g:Fact):cmpF f g=bif cmpI f.At g.At != 0 then cmpI f.At g.At else bif cmpI f.Crew g.Crew != 0 then cmpI f.Crew g.Crew else bif cmpI f.No g.No != 0 then cmpI f.No g.No else cmpB (encF f).1 (encF g).1:=by
 unfold cmpF orL orL orL orL
 generalize cmpI f.At g.At=a
 generalize cmpI f.Crew g.Crew=b
 generalize cmpI f.No g.No=d
 cases h1:(a != 0)with
 |true=>simp only[cond_true,h1]
 |false=>
  simp only[cond_false]
  cases h2:(b != 0)with
  |true=>simp only[cond_true,h2]
  |false=>
   simp only[cond_false]
   cases h3:(d != 0)with
   |true=>simp only[cond_true,h3]
   |false=>rfl
theorem cmpF_ok:CmpOK cmpF:=by
 have h:=QcH (cmpI_ok.on fun f:Fact=>f.At) (QcH (cmpI_ok.on fun f:Fact=>f.Crew) (QcH (cmpI_ok.on fun f:Fact=>f.No) (cb_ok.on fun f:Fact=>(encF f).1.map QH)))
 have e:cmpF=fun f g=>bif cmpI f.At g.At != 0 then cmpI f.At g.At else bif cmpI f.Crew g.Crew != 0 then cmpI f.Crew g.Crew else bif cmpI f.No g.No != 0 then cmpI f.No g.No else cmpB (encF f).1 (encF g).1:=by
  funext f g;exact QdE f g
 rw[e];exact h
def wideE(e:Ent):Bool:=decide (-1125899906842624<=e.lo)&&decide (e.hi<=1125899906842624)
theorem QhG(f:Fact):(entsS f).all wideE=true:=by
 unfold entsS
 rw[List.all_append,Bool.and_eq_true]
 refine⟨rfl,?_⟩
 rcases kinds f with k|k|k|k|k|k|k|k|k|k|k|k|k|k
 case inr.inr.inr.inr.inr.inr.inr.inr.inr.inl=>
  unfold openU
  rw[k]
  show(bodyL (bif (f.Ruling.Kind==1)||(f.Ruling.Kind==2)then .c9 (0,0,0,0,0,0)else bif f.Ruling.Kind==3 then .c9 (1,9999,0,255,1,1099511627776)else bif f.Ruling.Kind==4 then .c9 (1,9999,0,255,1,64)else .c9 (1,9999,0,255,0,0))).all wideE=true
  cases((f.Ruling.Kind==1)||(f.Ruling.Kind==2))with
  |true=>rfl
  |false=>
   cases(f.Ruling.Kind==3)with
   |true=>rfl
   |false=>cases(f.Ruling.Kind==4)<;>rfl
 case inr.inr.inr.inr.inr.inr.inr.inr.inr.inr.inr.inr.inr=>rw[k];rfl
 all_goals
  unfold openU
  rw[k]
  rfl
theorem QbO{f:Fact}(h:validS f=true):∀x∈numsS f,in63 x:=by
 have h0:=h
 unfold validS at h
 rw[QeF]at h
 by_cases q:openU f=.c13 ()
 ·rw[q]at h;cases h
 ·rw[<- (Qcy f q).2]
  cases a:fineU f (openU f)with
  |false=>rw[a]at h;cases h
  |true=>
   rw[a]at h
   cases b:(entsS f).all (inE f (suspB f))with
   |false=>rw[b]at h;cases h
   |true=>
    intro x hx
    obtain⟨e,he,rfl⟩:=List.mem_map.1 hx
    have h1:=List.all_eq_true.1 b e he
    have h2:=List.all_eq_true.1 (QhG f) e he
    unfold inE at h1
    unfold wideE at h2
    simp only[Bool.and_eq_true,Bool.not_eq_true',decide_eq_false_iff_not,decide_eq_true_eq]at h1 h2
    unfold in63
    omega
theorem QcA{f:Fact}(h:validS f=true):encF f=(listB (numsS f),0):=by
 unfold encF
 rw[h,Qgd h];rfl
theorem QjZ{f g:Fact}(hf:validS f=true)(hg:validS g=true)(h:cmpF f g=0):f=g:=by
 rw[QdE]at h
 have z:cmpB (encF f).1 (encF g).1=0:=by
  cases h1:(cmpI f.At g.At != 0)with
  |true=>rw[h1]at h;exact absurd h (bne_iff_ne.1 h1)
  |false=>
   rw[h1]at h
   cases h2:(cmpI f.Crew g.Crew != 0)with
   |true=>rw[h2]at h;exact absurd h (bne_iff_ne.1 h2)
   |false=>
    rw[h2]at h
    cases h3:(cmpI f.No g.No != 0)with
    |true=>rw[h3]at h;exact absurd h (bne_iff_ne.1 h3)
    |false=>rw[h3]at h;exact h
 rw[QcA hf,QcA hg]at z
 have e:=Qen (QcN _) (QcN _) (Qi3 z)
 exact QiB hf hg (QhB (QbO hf) (QbO hg) e)
set_option maxRecDepth 4000
def insC(x:Fact):List Fact->List Fact
 |[]=>[x]
 |y::r=>bif decide (cmpF y x<0)then y::insC x r else bif y==x then y::r else x::y::r
def canonS(l:List Fact):List Fact:=l.foldl (fun a x=>bif validS x then insC x a else a) []
def ltF(a b:Fact):Prop:=cmpF a b<0
theorem QkL(x y z:Fact):ltF x y->ltF y z->ltF x z:=cmpF_ok.trans x y z
theorem Qcd(x:Fact):∀(l:List Fact) (z:Fact),z∈insC x l↔z=x\/z∈l
 |[],z=>by simp[insC]
 |y::r,z=>by
  unfold insC
  cases decide (cmpF y x<0)with
  |true=>
   simp only[cond_true,List.mem_cons,Qcd x r z]
   constructor
   ·rintro(h|h|h)<;>simp[h]
   ·rintro(h|h|h)<;>simp[h]
  |false=>
   simp only[cond_false]
   cases h:(y==x)with
   |true=>
    have:y=x:=by simpa using h
    subst this
    simp
   |false=>simp
def CanonOK(l:List Fact):Prop:=l.Pairwise ltF/\ ∀f∈l,validS f=true
theorem Qhf{x:Fact}(hx:validS x=true):∀{l:List Fact},CanonOK l->CanonOK (insC x l)
 |[],_=>⟨by simp[insC],by simp[insC,hx]⟩
 |y::r,h=>by
  obtain⟨h1,h2⟩:=h
  rw[List.pairwise_cons]at h1
  have hr:CanonOK r:=⟨h1.2,fun f hf=>h2 f (by simp[hf])⟩
  have ih:=Qhf hx hr
  refine⟨?_,fun f hf=>?_⟩
  ·unfold insC
   cases q:decide (cmpF y x<0)with
   |true=>
    simp only[cond_true,List.pairwise_cons]
    refine⟨fun z hz=>?_,ih.1⟩
    rcases(Qcd x r z).1 hz with rfl|hz
    ·show cmpF y z<0
     exact of_decide_eq_true q
    ·exact h1.1 z hz
   |false=>
    simp only[cond_false]
    cases q2:(y==x)with
    |true=>simp only[cond_true,List.pairwise_cons];exact h1
    |false=>
     simp only[cond_false,List.pairwise_cons]
     have lt:ltF x y:=by
      have h3:=of_decide_eq_false q
      have h4:¬cmpF y x=0:=fun e=>by
       have:=QjZ (h2 y (by simp)) hx e
       rw[this]at q2
       simp at q2
      have:=cmpF_ok.swap x y
      unfold ltF
      omega
     refine⟨fun z hz=>?_,h1⟩
     rcases List.mem_cons.1 hz with rfl|hz
     ·exact lt
     ·exact QkL _ _ _ lt (h1.1 z hz)
  ·rcases(Qcd x (y::r) f).1 hf with rfl|hf
   ·exact hx
   ·exact h2 f hf
theorem QhM(l:List Fact):CanonOK (canonS l)/\ ∀f,f∈canonS l↔f∈l/\validS f=true:=by
 have gen:∀(r a:List Fact),CanonOK a->CanonOK (r.foldl (fun a x=>bif validS x then insC x a else a) a)/\ ∀f,f∈r.foldl (fun a x=>bif validS x then insC x a else a) a↔f∈a\/(f∈r/\validS f=true):=by
  intro r
  induction r with
  |nil=>intro a h;exact⟨h,fun f=>by simp⟩
  |cons x r ih=>
   intro a h
   rw[List.foldl_cons]
   cases q:validS x with
   |false=>
    obtain⟨h1,h2⟩:=ih a h
    refine⟨h1,fun f=>?_⟩
    rw[cond_false,h2 f,List.mem_cons]
    constructor
    ·rintro(a|⟨a,b⟩)
     ·exact .inl a
     ·exact .inr ⟨.inr a,b⟩
    ·rintro(a|⟨rfl|a,b⟩)
     ·exact .inl a
     ·rw[q]at b;cases b
     ·exact .inr ⟨a,b⟩
   |true=>
    obtain⟨h1,h2⟩:=ih (insC x a) (Qhf q h)
    refine⟨h1,fun f=>?_⟩
    rw[cond_true,h2 f,Qcd,List.mem_cons]
    constructor
    ·rintro((rfl|a)|⟨a,b⟩)
     ·exact .inr ⟨.inl rfl,q⟩
     ·exact .inl a
     ·exact .inr ⟨.inr a,b⟩
    ·rintro(a|⟨rfl|a,b⟩)
     ·exact .inl (.inr a)
     ·exact .inl (.inl rfl)
     ·exact .inr ⟨a,b⟩
 obtain⟨h1,h2⟩:=gen l [] ⟨by simp,by simp⟩
 exact⟨h1,fun f=>by rw[canonS,h2 f];simp⟩
set_option maxRecDepth 4000
def nb(v lo hi:Int):Bool:= !(decide (v<lo))&& !(decide (hi<v))
theorem QbQ(v lo hi:Int):nb v lo hi=true↔lo<=v/\v<=hi:=by
 unfold nb
 simp only[Bool.and_eq_true,Bool.not_eq_true',decide_eq_false_iff_not]
 omega
def contR(f:Fact):Bool:=
 bif f.Kind==1 then true&&(nb f.Starter.Bib 1 9999&&(nb f.Starter.Distance 0 7&&(nb f.Starter.Wave 0 31&&(nb f.Starter.Slot (-1099511627776) 1099511627776&&(nb f.Starter.Age 0 120&&(nb f.Starter.Chip 0 1048576&&(nb f.Starter.Team 0 9999&&(nb f.Starter.Lot 0 1048576&&true))))))))
 else bif f.Kind==2 then true&&(nb f.Read.Mat 0 39&&(nb f.Read.Epoch 0 255&&(nb f.Read.Chip 0 1048576&&(nb f.Read.Local (-1099511627776) 1099511627776&&true))))
 else bif f.Kind==3 then true&&(nb f.Beacon.Mat 0 39&&(nb f.Beacon.Epoch 0 255&&(nb f.Beacon.Local (-1099511627776) 1099511627776&&(nb f.Beacon.True (-1099511627776) 1099511627776&&(nb f.Beacon.Err 0 1099511627776&&true)))))
 else bif f.Kind==4 then decide (f.Sync.Min<=f.Sync.Max)&&(nb f.Sync.MatA 0 39&&(nb f.Sync.EpochA 0 255&&(nb f.Sync.LocalA (-1099511627776) 1099511627776&&(nb f.Sync.MatB 0 39&&(nb f.Sync.EpochB 0 255&&(nb f.Sync.LocalB (-1099511627776) 1099511627776&&(nb f.Sync.Min (-1099511627776) 1099511627776&&(nb f.Sync.Max (-1099511627776) 1099511627776&&true))))))))
 else bif f.Kind==5 then decide (f.Hand.Lo<=f.Hand.Hi)&&(nb f.Hand.Bib 1 9999&&(nb f.Hand.Position 0 255&&(nb f.Hand.Lo (-1099511627776) 1099511627776&&(nb f.Hand.Hi (-1099511627776) 1099511627776&&true))))
 else bif f.Kind==6 then decide (f.Silence.Lo<=f.Silence.Hi)&&(nb f.Silence.Mat 0 39&&(nb f.Silence.Epoch 0 255&&(nb f.Silence.Lo (-1099511627776) 1099511627776&&(nb f.Silence.Hi (-1099511627776) 1099511627776&&true))))
 else bif f.Kind==7 then decide (f.Pair.A<f.Pair.B)&&(nb f.Pair.A 1 9999&&(nb f.Pair.B 1 9999&&true))
 else bif f.Kind==8 then true&&(nb f.Report.Case 1 1048576&&(nb f.Report.Bib 1 9999&&(nb f.Report.Offence 0 31&&(nb f.Report.Position 0 255&&true))))
 else bif f.Kind==9 then true&&(nb f.Protest.Case 1 1048576&&(nb f.Protest.By 0 9999&&(nb f.Protest.Fee 0 1125899906842624&&(nb f.Protest.Form 0 1&&true))))
 else bif f.Kind==10 then true&&(nb f.Ruling.Case 1 1048576&&(nb f.Ruling.Instance 1 2&&(nb f.Ruling.Kind 1 5&&(bif (f.Ruling.Kind==1)||(f.Ruling.Kind==2)then nb f.Ruling.Bib 0 0&&(nb f.Ruling.Position 0 0&&(nb f.Ruling.Amount 0 0&&true))else bif f.Ruling.Kind==3 then nb f.Ruling.Bib 1 9999&&(nb f.Ruling.Position 0 255&&(nb f.Ruling.Amount 1 1099511627776&&true))else bif f.Ruling.Kind==4 then nb f.Ruling.Bib 1 9999&&(nb f.Ruling.Position 0 255&&(nb f.Ruling.Amount 1 64&&true))else nb f.Ruling.Bib 1 9999&&(nb f.Ruling.Position 0 255&&(nb f.Ruling.Amount 0 0&&true))))))
 else bif f.Kind==11 then true&&(nb f.Appeal.Case 1 1048576&&(nb (suspB f) 0 1&&true))
 else bif f.Kind==12 then true&&true
 else bif f.Kind==13 then true&&(nb f.Void.Crew 0 31&&(nb f.Void.No 1 1048576&&true))
 else false
theorem QeK(f:Fact):(f.Kind=1\/f.Kind=2\/f.Kind=3\/f.Kind=4\/f.Kind=5\/f.Kind=6\/f.Kind=7\/f.Kind=8\/f.Kind=9\/f.Kind=10\/f.Kind=11\/f.Kind=12\/f.Kind=13)\/((f.Kind==1)=false/\(f.Kind==2)=false/\(f.Kind==3)=false/\(f.Kind==4)=false/\(f.Kind==5)=false/\(f.Kind==6)=false/\(f.Kind==7)=false/\(f.Kind==8)=false/\(f.Kind==9)=false/\(f.Kind==10)=false/\(f.Kind==11)=false/\(f.Kind==12)=false/\(f.Kind==13)=false):=by
 by_cases h:1<=f.Kind/\f.Kind<=13
 ·left;omega
 ·right
  simp only[beq_eq_false_iff_ne,ne_eq]
  omega
theorem Qi1(f:Fact):contS f=contR f:=by
 rcases QeK f with k|⟨k1,k2,k3,k4,k5,k6,k7,k8,k9,k10,k11,k12,k13⟩
 ·rcases k with k|k|k|k|k|k|k|k|k|k|k|k|k
  case inr.inr.inr.inr.inr.inr.inr.inr.inr.inl=>
   obtain⟨Cr,No,At,Ki,S,R,B,Sy,Ha,Si,Pa,Re,Pr,⟨r1,r2,r3,r4,r5,r6⟩,Ap,Vo⟩:=f
   simp only at k
   subst k
   have hu:openU ⟨Cr,No,At,10,S,R,B,Sy,Ha,Si,Pa,Re,Pr,⟨r1,r2,r3,r4,r5,r6⟩,Ap,Vo⟩=(bif (r3==1)||(r3==2)then U_facts_open_rxk.c9 (0,0,0,0,0,0)else bif r3==3 then .c9 (1,9999,0,255,1,1099511627776)else bif r3==4 then .c9 (1,9999,0,255,1,64)else .c9 (1,9999,0,255,0,0)):=rfl
   have hc:contR ⟨Cr,No,At,10,S,R,B,Sy,Ha,Si,Pa,Re,Pr,⟨r1,r2,r3,r4,r5,r6⟩,Ap,Vo⟩=(true&&(nb r1 1 1048576&&(nb r2 1 2&&(nb r3 1 5&&(bif (r3==1)||(r3==2)then nb r4 0 0&&(nb r5 0 0&&(nb r6 0 0&&true))else bif r3==3 then nb r4 1 9999&&(nb r5 0 255&&(nb r6 1 1099511627776&&true))else bif r3==4 then nb r4 1 9999&&(nb r5 0 255&&(nb r6 1 64&&true))else nb r4 1 9999&&(nb r5 0 255&&(nb r6 0 0&&true))))))):=rfl
   rw[hc]
   unfold contS
   rw[hu]
   cases((r3==1)||(r3==2))with
   |true=>rfl
   |false=>
    cases(r3==3)with
    |true=>rfl
    |false=>cases(r3==4)<;>rfl
  case inr.inr.inr.inr.inr.inr.inr.inr.inr.inr.inl=>
   obtain⟨Cr,No,At,Ki,S,R,B,Sy,Ha,Si,Pa,Re,Pr,Ru,⟨Ca,Su⟩,Vo⟩:=f
   simp only at k
   subst k
   cases Su<;>rfl
  all_goals
   obtain⟨Cr,No,At,Ki,S,R,B,Sy,Ha,Si,Pa,Re,Pr,Ru,Ap,Vo⟩:=f
   simp only at k
   subst k
   rfl
 ·have hu:openU f=.c13 ():=by unfold openU;rw[k1,k2,k3,k4,k5,k6,k7,k8,k9,k10,k11,k12,k13];rfl
  unfold contS contR
  rw[hu,k1,k2,k3,k4,k5,k6,k7,k8,k9,k10,k11,k12,k13]
  rfl
theorem Yp(n:Nat)(v a b:Int):F_b n v a b=some (nb v a b):=by
 unfold F_b nb
 have e1:decide (a<=v)= !decide (v<a):=by rw[Bool.eq_iff_iff];simp
 have e2:decide (v<=b)= !decide (b<v):=by rw[Bool.eq_iff_iff];simp
 rw[e1,e2]
 cases decide (v<a)<;>rfl
theorem Qd1(a:Bool)(b:Option Bool)(c:Bool)(h:b=some c):(bif a then b else some false)=some (a&&c):=by
 subst h;cases a<;>rfl
theorem Qbg(n:Nat)(v:Int):F_e n v=some (nb v 1 9999):=by unfold F_e;rw[Yp];rfl
theorem QeD(n:Nat)(v:Int):F_k n v=some (nb v 0 39):=by unfold F_k;rw[Yp];rfl
theorem Qb5(n:Nat)(v:Int):F_j n v=some (nb v 0 255):=by unfold F_j;rw[Yp];rfl
theorem Qbq(n:Nat)(v:Int):F_ad n v=some (nb v 0 1048576):=by unfold F_ad;rw[Yp];rfl
theorem YI(n:Nat)(v:Int):F_l n v=some (nb v 0 255):=by unfold F_l;rw[Yp];rfl
theorem Qc7(n:Nat)(v:Int):F_q n v=some (nb v 1 1048576):=by unfold F_q;rw[Yp];rfl
theorem Qea(n:Nat)(v:Int):F_p n v=some (nb v 1 1048576):=by unfold F_p;rw[Yp];rfl
theorem Qg9(n:Nat)(v:Int):F_n n v=some (nb v 0 31):=by unfold F_n;rw[Yp];rfl
theorem Qbp(n:Nat)(v:Int):F_c n v=some (nb v (-1099511627776) 1099511627776):=by unfold F_c;rw[Yp];rfl
theorem Qgr(n:Nat)(f:Fact):F_ah n f=some (contR f):=by
 unfold F_ah contR
 cases(f.Kind==1)with
 |true=>
  unfold F_bs
  simp only[Qbg,Qbp,Qbq,Yp,Option.bind_some,cond_true,Qd1 _ _ _ rfl,Option.some.injEq,Bool.true_and,Bool.and_true]
 |false=>
 cases(f.Kind==2)with
 |true=>simp only[QeD,Qb5,Qbp,Qbq,Yp,Option.bind_some,cond_true,cond_false,Qd1 _ _ _ rfl,Option.some.injEq,Bool.true_and,Bool.and_true]
 |false=>
 cases(f.Kind==3)with
 |true=>simp only[QeD,Qb5,Qbp,Qbq,Yp,Option.bind_some,cond_true,cond_false,Qd1 _ _ _ rfl,Option.some.injEq,Bool.true_and,Bool.and_true]
 |false=>
 cases(f.Kind==4)with
 |true=>
  unfold F_bz
  simp only[QeD,Qb5,Qbp,Qbq,Yp,Option.bind_some,cond_true,cond_false,Qd1 _ _ _ rfl,Option.some.injEq,Bool.true_and,Bool.and_true]
  rw[Bool.eq_iff_iff]
  simp only[Bool.and_eq_true,QbQ,decide_eq_true_eq]
  omega
 |false=>
 cases(f.Kind==5)with
 |true=>
  simp only[Qbg,YI,Qbp,Qbq,Yp,Option.bind_some,cond_true,cond_false,Qd1 _ _ _ rfl,Option.some.injEq,Bool.true_and,Bool.and_true]
  rw[Bool.eq_iff_iff]
  simp only[Bool.and_eq_true,QbQ,decide_eq_true_eq]
  omega
 |false=>
 cases(f.Kind==6)with
 |true=>
  simp only[QeD,Qb5,Qbp,Qbq,Yp,Option.bind_some,cond_true,cond_false,Qd1 _ _ _ rfl,Option.some.injEq,Bool.true_and,Bool.and_true]
  rw[Bool.eq_iff_iff]
  simp only[Bool.and_eq_true,QbQ,decide_eq_true_eq]
  omega
 |false=>
 cases(f.Kind==7)with
 |true=>
  simp only[Qbg,Yp,Option.bind_some,cond_true,cond_false,Qd1 _ _ _ rfl,Option.some.injEq,Bool.true_and,Bool.and_true]
  rw[Bool.eq_iff_iff]
  simp only[Bool.and_eq_true,QbQ,decide_eq_true_eq]
  omega
 |false=>
 cases(f.Kind==8)with
 |true=>simp only[Qbg,Qc7,YI,Yp,Option.bind_some,cond_true,cond_false,Qd1 _ _ _ rfl,Option.some.injEq,Bool.true_and,Bool.and_true]
 |false=>
 cases(f.Kind==9)with
 |true=>simp only[Qbg,Qc7,YI,Yp,Option.bind_some,cond_true,cond_false,Qd1 _ _ _ rfl,Option.some.injEq,Bool.true_and,Bool.and_true]
 |false=>
 cases(f.Kind==10)with
 |true=>
  unfold F_cd
  simp only[Qc7,Yp,Option.bind_some,cond_true,cond_false,Bool.true_and]
  have bz:∀v:Int,(v==0)=nb v 0 0:=by intro v;rw[Bool.eq_iff_iff,QbQ,beq_iff_eq];omega
  cases nb f.Ruling.Case 1 1048576 with
  |false=>rfl
  |true=>
   cases nb f.Ruling.Instance 1 2 with
   |false=>rfl
   |true=>
    simp only[Bool.not_true,cond_false,Option.bind_some,Bool.true_and]
    by_cases a1:f.Ruling.Kind=1
    ·rw[a1]
     simp only[bz]
     cases nb f.Ruling.Bib 0 0 with
     |false=>rfl
     |true=>cases nb f.Ruling.Position 0 0 with
      |false=>rfl
      |true=>cases nb f.Ruling.Amount 0 0<;>rfl
    by_cases a2:f.Ruling.Kind=2
    ·rw[a2]
     simp only[bz]
     cases nb f.Ruling.Bib 0 0 with
     |false=>rfl
     |true=>cases nb f.Ruling.Position 0 0 with
      |false=>rfl
      |true=>cases nb f.Ruling.Amount 0 0<;>rfl
    by_cases a3:f.Ruling.Kind=3
    ·rw[a3]
     simp only[bz,Qbg,YI,Yp,Option.bind_some]
     cases nb f.Ruling.Bib 1 9999 with
     |false=>rfl
     |true=>cases nb f.Ruling.Position 0 255 with
      |false=>rfl
      |true=>cases nb f.Ruling.Amount 1 1099511627776<;>rfl
    by_cases a4:f.Ruling.Kind=4
    ·rw[a4]
     simp only[bz,Qbg,YI,Yp,Option.bind_some]
     cases nb f.Ruling.Bib 1 9999 with
     |false=>rfl
     |true=>cases nb f.Ruling.Position 0 255 with
      |false=>rfl
      |true=>cases nb f.Ruling.Amount 1 64<;>rfl
    by_cases a5:f.Ruling.Kind=5
    ·rw[a5]
     simp only[bz,Qbg,YI,Yp,Option.bind_some]
     cases nb f.Ruling.Bib 1 9999 with
     |false=>rfl
     |true=>cases nb f.Ruling.Position 0 255 with
      |false=>rfl
      |true=>cases nb f.Ruling.Amount 0 0<;>rfl
    have e:nb f.Ruling.Kind 1 5=false:=by
     rw[Bool.eq_false_iff,ne_eq,QbQ];omega
    rw[e,beq_eq_false_iff_ne.2 a1,beq_eq_false_iff_ne.2 a2,beq_eq_false_iff_ne.2 a3,beq_eq_false_iff_ne.2 a4,beq_eq_false_iff_ne.2 a5]
    rfl
 |false=>
 cases(f.Kind==11)with
 |true=>
  have e:nb (suspB f) 0 1=true:=by unfold suspB;cases f.Appeal.Suspends<;>rfl
  simp only[Qc7,Option.bind_some,cond_true,cond_false,e,Bool.true_and,Bool.and_true]
 |false=>
 cases(f.Kind==12)with
 |true=>rfl
 |false=>
 cases(f.Kind==13)with
 |true=>simp only[Qg9,Qea,Yp,Option.bind_some,cond_true,cond_false,Qd1 _ _ _ rfl,Option.some.injEq,Bool.true_and,Bool.and_true]
 |false=>rfl
theorem QjI(n:Nat)(f:Fact):F_ap n f=some (onlyS f):=by
 rcases QeK f with k|⟨k1,k2,k3,k4,k5,k6,k7,k8,k9,k10,k11,k12,k13⟩
 ·rcases k with k|k|k|k|k|k|k|k|k|k|k|k|k
  all_goals
   obtain⟨Cr,No,At,Ki,S,R,B,Sy,Ha,Si,Pa,Re,Pr,Ru,Ap,Vo⟩:=f
   simp only at k
   subst k
   rfl
 ·unfold F_ap onlyS
  rw[k1,k2,k3,k4,k5,k6,k7,k8,k9,k10,k11,k13]
  rfl
theorem QgJ{f:Fact}(h:contR f=true):nb f.Kind 1 13=true:=by
 rw[QbQ]
 rcases QeK f with k|⟨k1,k2,k3,k4,k5,k6,k7,k8,k9,k10,k11,k12,k13⟩
 ·omega
 ·unfold contR at h
  rw[k1,k2,k3,k4,k5,k6,k7,k8,k9,k10,k11,k12,k13]at h
  cases h
theorem QiI(f:Fact):headS f=(nb f.Kind 1 13&&(nb f.Crew 0 31&&(nb f.No 1 1048576&&(nb f.At 0 1099511627776&&true)))):=rfl
theorem Qfr(n:Nat)(f:Fact):F_aa n f=some (bif validS f then 0 else 120):=by
 unfold F_aa
 rw[Qg9,Qea,Yp,Qgr,QjI,Qcr,Qi1,QiI]
 simp only[Option.bind_some]
 have hk:= @QgJ f
 have e:(f != onlyS f)= !(onlyS f==f):=by
  rw[bne,Bool.beq_comm]
 rw[e]
 cases hc:contR f with
 |false=>
  rw[Bool.and_false,Bool.false_and]
  cases nb f.Crew 0 31 with
  |false=>rfl
  |true=>cases nb f.No 1 1048576 with
   |false=>rfl
   |true=>cases nb f.At 0 1099511627776<;>rfl
 |true=>
  rw[hk hc]
  cases nb f.Crew 0 31 with
  |false=>rfl
  |true=>cases nb f.No 1 1048576 with
   |false=>rfl
   |true=>cases nb f.At 0 1099511627776 with
    |false=>rfl
    |true=>cases(onlyS f==f)<;>rfl
theorem QjJ(n:Nat)(f:Fact):F_bb n f=some (numsS f):=by
 unfold F_bb numsS
 cases(f.Kind==1)with
 |true=>rfl
 |false=>
 cases(f.Kind==2)with
 |true=>rfl
 |false=>
 cases(f.Kind==3)with
 |true=>rfl
 |false=>
 cases(f.Kind==4)with
 |true=>rfl
 |false=>
 cases(f.Kind==5)with
 |true=>rfl
 |false=>
 cases(f.Kind==6)with
 |true=>rfl
 |false=>
 cases(f.Kind==7)with
 |true=>rfl
 |false=>
 cases(f.Kind==8)with
 |true=>rfl
 |false=>
 cases(f.Kind==9)with
 |true=>rfl
 |false=>
 cases(f.Kind==10)with
 |true=>rfl
 |false=>
 cases(f.Kind==11)with
 |true=>
  unfold suspB
  cases f.Appeal.Suspends<;>rfl
 |false=>
 cases(f.Kind==13)with
 |true=>rfl
 |false=>rfl
theorem QgD(l:List Int)(hl:l.length<=1000):Ev (fun n=>F_bg n l) (l.map mkV):=by
 unfold F_bg
 refine Ev.bind (v:=l.map mkV) ?_ (Qd _)
 have e:∀(m:List Int) (a:List Value),m.foldl (fun(a:List Value) x=>a++[mkV x]) a=a++m.map mkV:=by
  intro m
  induction m with
  |nil=>intro a;simp
  |cons x m ih=>intro a;simp only[List.foldl_cons,List.map_cons];rw[ih];simp
 refine Ev.eq (Qa8 l (fun(a:List Value) x=>a++[mkV x]) [] (fun a i=>(a,(i:Int))) (fun a=>a) (by omega) rfl (fun i x a ha hf=>?_) ?_) (by rw[e];rfl)
 ·unfold F_fp F_cf
  simp only[ha.lt,cond_true,ha.ix,Option.bind_some,ha.nx]
  have hal:a.length<=1000:=by rw[hf,e,List.nil_append,List.length_map,List.length_take];omega
  rw[QeZ _ _ (by omega)]
  exact Qd _
 ·unfold F_fp
  simp only[QdZ,cond_false]
  exact Qd _
theorem Qfq(n:Nat)(x:Int)(h:in63 x):F_at n x=some (zigI x):=by
 obtain⟨h1,h2⟩:=h
 unfold F_at
 simp only[QaY]
 by_cases p:0<=x
 ·rw[QeW p,Qc3 p h2]
  simp only[cond_true,Option.some.injEq]
  omega
 ·rw[QiZ p,Qc4 (by omega) h1,Qgb (show-9223372036854775808<=x+1 by omega) (by omega),Qgb (show-9223372036854775808<=0-(x+1)by omega) (by omega)]
  simp only[cond_false,Option.some.injEq]
  omega
theorem QdW:∀(k v:Nat),v<128^(k+1)->k<=9->v<18446744073709551616->Ev (fun n=>F_f n (v:Int)) (numN v):=by
 intro k
 induction k with
 |zero=>
  intro v hv _ _
  refine YC ?_
  show Ev (fun n=>B_f (F_f n) n (v:Int)) _
  unfold B_f
  rw[QeW (show(v:Int)<128 by omega),QaB (by omega)]
  exact Qd _
 |succ k ih=>
  intro v hv hk h64
  refine YC ?_
  show Ev (fun n=>B_f (F_f n) n (v:Int)) _
  unfold B_f
  by_cases q:v<128
  ·rw[QeW (show(v:Int)<128 by omega),QaB (by omega)]
   exact Qd _
  ·rw[QiZ (show¬(v:Int)<128 by omega)]
   have hd:v/128<128^(k+1):=by rw[Nat.div_lt_iff_lt_mul (by decide)];rw[Nat.pow_succ]at hv;exact hv
   have e1:IntKind.u64.wrap (Int.tdiv (v:Int) 128)=((v/128:Nat):Int):=by
    rw[QaY,Int.tdiv_eq_ediv_of_nonneg (by omega)]
    omega
   have e2:IntKind.u8.wrap (IntKind.u64.wrap ((Int.tmod (v:Int) 128)+128))=((v%128+128:Nat):Int):=by
    rw[Qev,QaY,Int.tmod_eq_emod_of_nonneg (by omega)]
    omega
   rw[e1,e2,Qbs v,if_pos (show 128<=v by omega)]
   simp only[cond_false]
   refine Ev.bind (ih (v/128) hd (by omega) (by omega)) ?_
   have hlen:=Qfz k (v/128) hd
   rw[Qbu _ _ (by simp;omega)]
   exact Qd _
theorem Qei(v:Nat)(h:v<18446744073709551616):Ev (fun n=>F_f n (v:Int)) (numN v):=QdW 9 v (Nat.lt_of_lt_of_le h (by decide)) (Nat.le_refl _) h
theorem QgF(x:Int)(h:in63 x):Ev (fun n=>F_g n (mkV x)) (oneB x):=by
 refine YC ?_
 show Ev (fun n=>B_g (F_g n) n (mkV x)) _
 unfold B_g
 have e:((mkV x).Kind==1)=true:=rfl
 rw[e]
 simp only[cond_true]
 obtain⟨z,h1,h2⟩:=Qeu x
 refine Ev.bind (Ev.const (Qfq 0 x h)) ?_
 rw[h1]
 refine Ev.bind (Qei z h2) ?_
 have:=QbP h2
 rw[Qbu _ _ (by simp;omega)]
 refine(Qd _).eq ?_
 unfold oneB
 rw[h1];simp
theorem QgE(l:List Int)(hl:l.length<=1000)(h:∀x∈l,in63 x):Ev (fun n=>F_g n (listV l)) (listB l):=by
 refine YC ?_
 show Ev (fun n=>B_g (F_g n) n (listV l)) _
 unfold B_g
 have e:((listV l).Kind==1)=false:=rfl
 have e':((listV l).Kind==2)=false:=rfl
 have el:(listV l).L=l.map mkV:=rfl
 rw[e,e',el]
 simp only[cond_false]
 have e1:IntKind.u64.wrap (((l.map mkV).length:Int))=((l.length:Nat):Int):=by
  rw[QaY,List.length_map];omega
 rw[e1]
 refine Ev.bind (Qei l.length (by omega)) ?_
 have n10:=QbP (show l.length<18446744073709551616 by omega)
 rw[Qbu _ _ (by simp;omega)]
 refine Ev.bind (v:=[3]++numN l.length) (Qd _) ?_
 refine Ev.bind (v:=listB l) ?_ (Qd _)
 have hlen:∀(m:List Int) (a:List Int),((m.map mkV).foldl (fun(a:List Int) (v:Value)=>a++oneB v.N) a).length<=a.length+11*m.length:=by
  intro m
  induction m with
  |nil=>intro a;simp
  |cons x m ih=>
   intro a
   simp only[List.map_cons,List.foldl_cons,List.length_cons]
   have h1:=ih (a++oneB (mkV x).N)
   have h2:=Qfw (mkV x).N
   rw[List.length_append]at h1
   omega
 have k:=Qa8 (step:=fun n=>F_fh n (listV l) (F_g n)) (l.map mkV) (fun(a:List Int) (v:Value)=>a++oneB v.N) ([3]++numN l.length) (fun a i=>(a,(i:Int))) (fun a=>a) (by rw[List.length_map];omega) rfl (fun i x a ha hf=>?_) ?_
 ·refine Ev.eq k ?_
  have:∀(m:List Int) (a:List Int),(m.map mkV).foldl (fun(a:List Int) (v:Value)=>a++oneB v.N) a=a++(m.map oneB).flatten:=by
   intro m
   induction m with
   |nil=>intro a;simp
   |cons x m ih=>intro a;simp only[List.map_cons,List.foldl_cons,List.flatten_cons];rw[ih];simp[mkV]
  rw[this];rfl
 ·obtain⟨y,hy,rfl⟩:=List.mem_map.1 ha.mem
  have hal:a.length<=100000:=by
   have h2:=hlen (l.take i) ([3]++numN l.length)
   rw[List.map_take, <- hf,List.length_append,List.length_take]at h2
   simp at h2
   omega
  unfold F_fh
  have hlt:decide ((i:Int)<((listV l).L.length:Int))=true:=ha.lt
  have hix:idx (listV l).L (i:Int)=some (mkV y):=ha.ix
  simp only[hlt,cond_true,hix,Option.bind_some,ha.nx]
  refine Ev.bind (QgF y (h y hy)) ?_
  have h2:=Qfw y
  have:app a (oneB y)=some (a++oneB y):=by
   unfold app
   have:Nat.ble (a.length+(oneB y).length) Yc=true:=Nat.ble_eq_true_of_le (Nat.le_trans (show _<=1000000 by omega) (by decide))
   rw[this];rfl
  rw[this]
  exact Qd _
 ·unfold F_fh
  have hlt:decide (((l.map mkV).length:Int)<((listV l).L.length:Int))=false:=QdZ _
  simp only[hlt,cond_false]
  exact Qd _
theorem QdX(x:Int):Ev (fun n=>F_i n (mkV x)) true:=by
 refine YC ?_
 show Ev (fun n=>B_i (F_i n) n (mkV x)) _
 exact Qd _
theorem QeR(l:List Int)(hl:l.length<=1000):Ev (fun n=>F_i n (listV l)) true:=by
 refine YC ?_
 show Ev (fun n=>B_i (F_i n) n (listV l)) _
 unfold B_i
 have e1:((listV l).Kind==1)=false:=rfl
 have e2:((listV l).Kind==2)=false:=rfl
 have e3:((listV l).Kind==3)=true:=rfl
 rw[e1,e2,e3]
 simp only[cond_false,cond_true]
 refine Ev.bind (v:=(Ctl.cont ():Ctl Unit Bool)) ?_ (Qd _)
 refine Ev.iter (fun i=>(i:Int)) (l.map mkV).length rfl (fun i hi=>?_) ?_
 ·have ha:=YT (x:=(l.map mkV)[i]) (show(l.map mkV).length<=4611686018427387904 by rw[List.length_map];omega) (List.getElem?_eq_getElem hi)
  obtain⟨y,hy⟩:∃y,(l.map mkV)[i]=mkV y:=by rw[List.getElem_map];exact⟨_,rfl⟩
  unfold F_fq
  have hlt:decide ((i:Int)<((listV l).L.length:Int))=true:=ha.lt
  have hix:idx (listV l).L (i:Int)=some (l.map mkV)[i]:=ha.ix
  simp only[hlt,cond_true,hix,Option.bind_some,ha.nx]
  rw[hy]
  exact Ev.bind (QdX y) (Qd _)
 ·unfold F_fq
  have hlt:decide (((l.map mkV).length:Int)<((listV l).L.length:Int))=false:=QdZ _
  simp only[hlt,cond_false]
  exact Qd _
theorem QeT(x:Int):Ev (fun n=>F_h n (mkV x)) 0:=by
 refine YC ?_
 show Ev (fun n=>B_h (F_h n) n (mkV x)) _
 exact Qd _
theorem QeS(l:List Int)(hl:l.length<=1000):Ev (fun n=>F_h n (listV l)) 1:=by
 refine YC ?_
 show Ev (fun n=>B_h (F_h n) n (listV l)) _
 unfold B_h
 have e1:((listV l).Kind != 3)=false:=rfl
 rw[e1]
 simp only[cond_false]
 refine Ev.bind (v:=(0:Int)) ?_ (Qd _)
 refine Ev.iter (fun i=>((0:Int),(i:Int))) (l.map mkV).length rfl (fun i hi=>?_) ?_
 ·have ha:=YT (x:=(l.map mkV)[i]) (show(l.map mkV).length<=4611686018427387904 by rw[List.length_map];omega) (List.getElem?_eq_getElem hi)
  obtain⟨y,hy⟩:∃y,(l.map mkV)[i]=mkV y:=by rw[List.getElem_map];exact⟨_,rfl⟩
  unfold F_fr
  have hlt:decide ((i:Int)<((listV l).L.length:Int))=true:=ha.lt
  have hix:idx (listV l).L (i:Int)=some (l.map mkV)[i]:=ha.ix
  simp only[hlt,cond_true,hix,Option.bind_some,ha.nx]
  rw[hy]
  exact Ev.bind (QeT y) (Qd _)
 ·unfold F_fr
  have hlt:decide (((l.map mkV).length:Int)<((listV l).L.length:Int))=false:=QdZ _
  simp only[hlt,cond_false]
  exact Qd _
theorem QiA(f:Fact):(numsS f).length<=12:=by
 unfold numsS
 cases(f.Kind==1)with
 |true=>exact Nat.le_of_ble_eq_true rfl
 |false=>
 cases(f.Kind==2)with
 |true=>exact Nat.le_of_ble_eq_true rfl
 |false=>
 cases(f.Kind==3)with
 |true=>exact Nat.le_of_ble_eq_true rfl
 |false=>
 cases(f.Kind==4)with
 |true=>exact Nat.le_of_ble_eq_true rfl
 |false=>
 cases(f.Kind==5)with
 |true=>exact Nat.le_of_ble_eq_true rfl
 |false=>
 cases(f.Kind==6)with
 |true=>exact Nat.le_of_ble_eq_true rfl
 |false=>
 cases(f.Kind==7)with
 |true=>exact Nat.le_of_ble_eq_true rfl
 |false=>
 cases(f.Kind==8)with
 |true=>exact Nat.le_of_ble_eq_true rfl
 |false=>
 cases(f.Kind==9)with
 |true=>exact Nat.le_of_ble_eq_true rfl
 |false=>
 cases(f.Kind==10)with
 |true=>exact Nat.le_of_ble_eq_true rfl
 |false=>
 cases(f.Kind==11)with
 |true=>exact Nat.le_of_ble_eq_true rfl
 |false=>cases(f.Kind==13)<;>exact Nat.le_of_ble_eq_true rfl
theorem Qcf(f:Fact):Ev (fun n=>F_x n f) (encF f):=by
 unfold F_x
 refine Ev.bind (Qf6 (Qd _) fun n=>Qfr n f) ?_
 cases hv:validS f with
 |false=>
  unfold encF
  rw[hv]
  exact Qd _
 |true=>
  rw[QcA hv]
  simp only[cond_true,bne_self_eq_false,cond_false]
  refine Ev.bind (Qf6 (Qd _) fun n=>QjJ n f) ?_
  have hl:=QiA f
  refine Ev.bind (QgD _ (by omega)) ?_
  refine Ev.bind (v:=(listB (numsS f),0)) ?_ (Qd _)
  show Ev (fun n=>F_ax n (listV (numsS f))) _
  unfold F_ax F_bw
  refine Ev.bind (v:=0) (Ev.bind (QeR _ (by omega)) (Ev.bind (QeS _ (by omega)) (Qd _))) ?_
  exact Ev.bind (QgE _ (by omega) (QbO hv)) (Qd _)
theorem Qhc:∀a b:List UInt8,Op.bytesLess a b=decide (Lib.compareBytes a b<0)
 |[],[]=>rfl
 |[],_::_=>rfl
 |_::_,[]=>rfl
 |a::x,b::y=>by
  unfold Op.bytesLess Lib.compareBytes
  by_cases h:a<b
  ·rw[if_pos h,QeW h];rfl
  ·rw[if_neg h,QiZ h]
   by_cases h2:b<a
   ·rw[if_pos h2]
    have:(a==b)=false:=by
     rw[beq_eq_false_iff_ne]
     rintro rfl
     exact h h2
    rw[this];rfl
   ·rw[if_neg h2]
    have:a=b:=by
     rw[UInt8.lt_iff_toNat_lt]at h h2
     exact UInt8.toNat_inj.1 (by omega)
    rw[this,beq_self_eq_true,Qhc x y];rfl
theorem QfS:∀a b:List UInt8,Lib.compareBytes a b= -1\/Lib.compareBytes a b=0\/Lib.compareBytes a b=1
 |[],[]=>.inr (.inl rfl)
 |[],_::_=>.inl rfl
 |_::_,[]=>.inr (.inr rfl)
 |a::x,b::y=>by
  unfold Lib.compareBytes
  split
  ·exact .inl rfl
  ·split
   ·exact .inr (.inr rfl)
   ·exact QfS x y
theorem QbJ(f g:Fact):Ev (fun n=>F_as n f g) (cmpF f g):=by
 refine YC (YC (YC (YC ?_)))
 unfold F_as
 rw[QdE]
 have s0:∀n,F_bl n f g 0=(bif decide (f.At<g.At)then some (.done (.done (-1)))else bif decide (g.At<f.At)then some (.done (.done 1))else some (.cont 1)):=fun n=>rfl
 have s1:∀n,F_bl n f g 1=(bif decide (f.Crew<g.Crew)then some (.done (.done (-1)))else bif decide (g.Crew<f.Crew)then some (.done (.done 1))else some (.cont 2)):=fun n=>rfl
 have s2:∀n,F_bl n f g 2=(bif decide (f.No<g.No)then some (.done (.done (-1)))else bif decide (g.No<f.No)then some (.done (.done 1))else some (.cont 3)):=fun n=>rfl
 have s3:∀n,F_bl n f g 3=some (.done (.cont ())):=fun n=>rfl
 simp only[iter,s0]
 unfold cmpI
 cases decide (f.At<g.At)with
 |true=>exact Qd _
 |false=>
 cases decide (g.At<f.At)with
 |true=>exact Qd _
 |false=>
 simp only[cond_false,iter,s1]
 cases decide (f.Crew<g.Crew)with
 |true=>exact Qd _
 |false=>
 cases decide (g.Crew<f.Crew)with
 |true=>exact Qd _
 |false=>
 simp only[cond_false,iter,s2]
 cases decide (f.No<g.No)with
 |true=>exact Qd _
 |false=>
 cases decide (g.No<f.No)with
 |true=>exact Qd _
 |false=>
 simp only[cond_false,iter,s3,Option.bind_some]
 show Ev _ (cmpB (encF f).1 (encF g).1)
 refine Ev.bind (Qah (Qah (Qah (Qah (Qcf f))))) (Ev.bind (Qah (Qah (Qah (Qah (Qcf g))))) ?_)
 unfold cmpB
 rw[Qhc]
 rcases QfS ((encF f).1.map QH) ((encF g).1.map QH)with h|h|h
 ·rw[h];exact Qd _
 ·have e:=Qi3 h
  rw[h,e,beq_self_eq_true];exact Qd _
 ·have:((encF f).1.map QH==(encF g).1.map QH)=false:=by
   rw[beq_eq_false_iff_ne]
   intro e
   rw[e,cb_ok.refl]at h
   cases h
  rw[h,this];exact Qd _
def leadC(x:Fact):List Fact->Nat
 |[]=>0
 |y::r=>bif decide (cmpF y x<0)then leadC x r+1 else 0
theorem QfC(x:Fact):∀l:List Fact,leadC x l<=l.length
 |[]=>Nat.le_refl _
 |y::r=>by
  unfold leadC
  have:=QfC x r
  cases decide (cmpF y x<0)<;>simp<;>omega
theorem Qee(x:Fact):∀l:List Fact,insC x l=if l[leadC x l]?=some x then l else l.take (leadC x l)++x::l.drop (leadC x l)
 |[]=>by simp[insC,leadC]
 |y::r=>by
  unfold insC leadC
  cases decide (cmpF y x<0)with
  |true=>
   simp only[cond_true]
   rw[Qee x r]
   simp only[List.getElem?_cons_succ,List.take_succ_cons,List.drop_succ_cons]
   split<;>simp
  |false=>
   simp only[cond_false]
   by_cases e:y=x
   ·rw[beq_iff_eq.2 e,e];simp
   ·rw[beq_eq_false_iff_ne.2 e];simp[e]
theorem QjV(l:List Fact)(hl:l.length<=1048576)(out:List Fact)(ho:out.length<=1048576){i:Nat}{x:Fact}(ha:At l i x):
  Ev (fun n=>iter (F_aq n l (out,(i:Int))) n 0) ((leadC x out:Nat):Int):=by
 have loop:∀(r:List Fact) (j:Nat),out.drop j=r->j<=out.length->EvI (fun n=>F_aq n l (out,(i:Int))) (j:Int) ((j+leadC x r:Nat):Int):=by
  intro r
  induction r with
  |nil=>
   intro j hr hj
   refine EvI.done ?_
   unfold F_aq
   simp only[QfP hr hj,cond_false,Option.bind_some]
   exact Qd _
  |cons y r ih=>
   intro j hr hj
   obtain⟨hb,hr'⟩:=QbY (by omega) hr
   have hlt:=hb.lt'
   unfold leadC
   cases q:decide (cmpF y x<0)with
   |true=>
    refine EvI.cont ?_ ((ih (j+1) hr' (by omega)).eq (by simp only[cond_true];omega))
    unfold F_aq
    simp only[hb.lt,cond_true,hb.ix,ha.ix,Option.bind_some,hb.nx]
    refine Ev.bind (v:=true) (Ev.bind (QbJ y x) ((Qd _).eq q)) (Qd _)
   |false=>
    refine EvI.done ?_
    unfold F_aq
    simp only[hb.lt,cond_true,hb.ix,ha.ix,Option.bind_some]
    refine Ev.bind (v:=false) (Ev.bind (QbJ y x) ((Qd _).eq q)) (Qd _)
 have:=(loop out 0 rfl (Nat.zero_le _)).ev
 simpa using this
theorem Qdy(x:Fact):∀l:List Fact,(insC x l).length<=l.length+1
 |[]=>by simp[insC]
 |y::r=>by
  unfold insC
  have:=Qdy x r
  cases decide (cmpF y x<0)with
  |true=>simp only[cond_true,List.length_cons];omega
  |false=>cases(y==x)<;>simp
theorem Qe0{α:Type}(l m:List α)(h:l.length+m.length<=4000000):app l m=some (l++m):=by
 unfold app
 have:Nat.ble (l.length+m.length) Yc=true:=Nat.ble_eq_true_of_le (Nat.le_trans h (by decide))
 rw[this];rfl
theorem QfM(l:List Fact)(hl:l.length<=1048575):Ev (fun n=>F_av n l) (canonS l):=by
 unfold F_av
 refine Ev.bind (v:=canonS l) ?_ (Qd _)
 refine Qa8 l (fun a x=>bif validS x then insC x a else a) [] (fun a i=>(a,(i:Int))) (fun a=>a) (by omega) rfl (fun i x a ha hf=>?_) ?_
 ·have hal:a.length<=i:=by
   have:∀(m:List Fact) (a:List Fact),(m.foldl (fun a x=>bif validS x then insC x a else a) a).length<=a.length+m.length:=by
    intro m
    induction m with
    |nil=>intro a;simp
    |cons x m ih=>
     intro a
     rw[List.foldl_cons,List.length_cons]
     have h1:=ih (bif validS x then insC x a else a)
     have h2:(bif validS x then insC x a else a).length<=a.length+1:=by
      cases validS x with
      |true=>exact Qdy x a
      |false=>simp
     omega
   have h2:=this (l.take i) []
   rw[<- hf,List.length_take]at h2
   simp at h2
   omega
  have hlt:=ha.lt'
  unfold F_fs
  simp only[ha.lt,cond_true,ha.ix,Option.bind_some,ha.nx,Qfr]
  refine Ev.bind (v:=bif validS x then insC x a else a) ?_ (Qd _)
  cases hv:validS x with
  |false=>exact Qd _
  |true=>
   simp only[cond_true,bne_self_eq_false,cond_false]
   refine Ev.bind (QjV l (by omega) a (by omega) ha) ?_
   have hle:=QfC x a
   refine Ev.bind (v:=decide (a[leadC x a]?=some x)) ?_ ?_
   ·by_cases q:leadC x a<a.length
    ·have hg:a[leadC x a]?=some a[leadC x a]:=List.getElem?_eq_getElem q
     rw[QeW (show((leadC x a:Nat):Int)<(a.length:Int)by omega),Qhg hg,hg]
     refine(Qd _).eq ?_
     rw[Bool.eq_iff_iff]
     simp
    ·rw[QiZ (show¬((leadC x a:Nat):Int)<(a.length:Int)by omega)]
     refine(Qd _).eq ?_
     rw[List.getElem?_eq_none (by omega)]
     simp
   ·rw[Qee x a]
    by_cases q:a[leadC x a]?=some x
    ·rw[QeW q,if_pos q];exact Qd _
    ·rw[QiZ q,if_neg q]
     simp only[cond_false]
     rw[Qkp a hle,Qim a hle]
     simp only[Option.bind_some]
     rw[Qe0 [] _ (by simp;omega)]
     simp only[Option.bind_some,List.nil_append]
     rw[Qe0 _ [x] (by simp;omega)]
     simp only[Option.bind_some]
     rw[Qe0 _ _ (by simp;omega)]
     refine(Qd _).eq ?_
     simp
 ·unfold F_fs
  simp only[QdZ,cond_false]
  exact Qd _
structure IsHit (W:Int) (S:Int->Prop) (a b:Int):Prop where
 fa:S a
 lb:S b
 le:a<=b
 st:∀s,S s->s<a->s<a-W
 en:∀s,S s->b<s->b+W<s
 su:∀s,S s->a<=s->s<b->∃t,S t/\s<t/\t<=s+W
 pr:∀s,S s->a<s->s<=b->∃t,S t/\t<s/\s-W<=t/\a<=t
theorem Qkl{W:Int}{S T:Int->Prop}(h:∀s,S s↔T s){a b:Int}(q:IsHit W S a b):IsHit W T a b:=by
 have:S=T:=funext fun s=>propext (h s)
 rw[<- this];exact q
def EvL{S T B:Type}(step:Nat->S->Option (List T×Ctl S B))(s:S)(r:List T×B):Prop:=∃N,∀n k,N<=n->N<=k->QbH (step n) k s=some r
theorem EvL.done{S T B:Type}{step:Nat->S->Option (List T×Ctl S B)}{s:S}{z:List T}{b:B}(h:Ev (fun n=>step n s) (z,.done b)):EvL step s (z,b):=by
 obtain⟨N,h⟩:=h
 refine⟨N+1,fun n k hn hk=>?_⟩
 obtain⟨j,rfl⟩:∃j,k=j+1:=⟨k-1,by omega⟩
 simp only[QbH,h n (by omega),Option.bind_some]
theorem EvL.cont{S T B:Type}{step:Nat->S->Option (List T×Ctl S B)}{s s':S}{z ys:List T}{b:B}(h:Ev (fun n=>step n s) (z,.cont s'))(q:EvL step s' (ys,b)):EvL step s (z++ys,b):=by
 obtain⟨N,h⟩:=h
 obtain⟨M,q⟩:=q
 refine⟨max N M+1,fun n k hn hk=>?_⟩
 obtain⟨j,rfl⟩:∃j,k=j+1:=⟨k-1,by omega⟩
 simp only[QbH,h n (by omega),Option.bind_some,q n j (by omega) (by omega)]
theorem EvL.ev{S T B:Type}{step:Nat->S->Option (List T×Ctl S B)}{s:S}{r:List T×B}(h:EvL step s r):Ev (fun n=>QbH (step n) n s) r:=by
 obtain⟨N,h⟩:=h
 exact⟨N,fun n hn=>h n n hn hn⟩
theorem EvL.eq{S T B:Type}{step:Nat->S->Option (List T×Ctl S B)}{s:S}{r r':List T×B}(h:EvL step s r)(e:r=r'):EvL step s r':=e▸h
def selB(k:Int)(f:Fact):Bool:=(f.Kind==k)&&validS f
theorem QhD(l:List Fact)(k:Int)(hl:l.length<=1000):Ev (fun n=>F_t n l k) (l.filter (selB k)):=by
 unfold F_t
 refine Ev.bind (v:=l.filter (selB k)) ?_ (Qd _)
 refine Ev.iter (fun i=>((l.take i).filter (selB k),(i:Int))) l.length rfl (fun i hi=>?_) ?_
 ·have ha:=YT (x:=l[i]) (show l.length<=4611686018427387904 by omega) (List.getElem?_eq_getElem hi)
  generalize l[i]=x at ha
  have hlen:((l.take i).filter (selB k)).length<=i:=Nat.le_trans (List.length_filter_le _ _) (by rw[List.length_take];omega)
  unfold F_fn
  simp only[ha.lt,cond_true,ha.ix,Option.bind_some,ha.nx]
  rw[ha.take,List.filter_append]
  refine Ev.bind (v:=selB k x) ?_ ?_
  ·unfold selB
   cases(x.Kind==k)with
   |false=>exact Qd _
   |true=>
    simp only[cond_true]
    refine Ev.bind (QdY x) ?_
    cases validS x<;>exact Qd _
  ·cases hx:selB k x with
   |false=>
    simp only[cond_false,Option.bind_some]
    rw[List.filter_cons_of_neg (by simp[hx]),List.filter_nil,List.append_nil]
    exact Qd _
   |true=>
    simp only[cond_true]
    rw[List.filter_cons_of_pos hx,List.filter_nil,QeZ _ _ (by omega)]
    exact Qd _
 ·unfold F_fn
  simp only[QdZ,cond_false,List.take_length]
  exact Qd _
def silB(r:Read)(f:Fact):Bool:=(f.Kind==6)&&((f.Silence.Mat==r.Mat)&&((f.Silence.Epoch==r.Epoch)&&(decide (f.Silence.Lo<=r.Local)&&decide (r.Local<=f.Silence.Hi))))
theorem QgG(l:List Fact)(r:Read)(hl:l.length<=1000):Ev (fun n=>F_ae n l r) (l.any (silB r)):=by
 unfold F_ae F_bu F_ch F_fu
 refine Ev.bind (Ev.contains l (silB r) (fun n x=>F_an n x r) (by omega) fun x _=>?_) (Qd _)
 unfold F_an silB
 refine Ev.bind (v:=(x.Kind==6)&&((x.Silence.Mat==r.Mat)&&((x.Silence.Epoch==r.Epoch)&&(decide (x.Silence.Lo<=r.Local)&&decide (r.Local<=x.Silence.Hi))))) ?_ (Qd _)
 exact Yl fun _=>Yl fun _=>Yl fun _=>Yl fun _=>Qd _
def silentS(l:List Fact)(r:Read):Bool:=(l.filter (selB 6)).any (silB r)
theorem QhE(l:List Fact)(r:Read)(hl:l.length<=1000):Ev (fun n=>F_v n l r) (silentS l r):=by
 unfold F_v
 exact Ev.bind (QhD l 6 hl) (Ev.bind (QgG _ r (Nat.le_trans (List.length_filter_le _ _) hl)) (Qd _))
section
variable {c:Course}{ts:List Int}
end
theorem Qkq:F_bi 300=some true:=by kernel_rfl
def coverB(h:Hit)(r:Read):Bool:=(h.Mat==r.Mat)&&((h.Epoch==r.Epoch)&&((h.Chip==r.Chip)&&(decide (h.First<=r.Local)&&decide (r.Local<=h.Last))))
theorem QhF(h:Hit)(r:Read):Ev (fun n=>F_am n h r) (coverB h r):=by
 unfold F_am coverB
 refine Ev.bind (v:=(h.Mat==r.Mat)&&((h.Epoch==r.Epoch)&&((h.Chip==r.Chip)&&(decide (h.First<=r.Local)&&decide (r.Local<=h.Last))))) ?_ (Qd _)
 exact Yl fun _=>Yl fun _=>Yl fun _=>Yl fun _=>Qd _
theorem Qez(l:List Fact)(r:Read):(canonS l).any (silB r)=silentS l r:=by
 unfold silentS
 rw[Bool.eq_iff_iff,List.any_eq_true,List.any_eq_true]
 obtain⟨_,hm⟩:=QhM l
 constructor
 ·rintro⟨f,f1,f2⟩
  obtain⟨g1,g2⟩:=(hm f).1 f1
  have hk:(f.Kind==6)=true:=by unfold silB at f2;simp only[Bool.and_eq_true]at f2;exact f2.1
  exact⟨f,List.mem_filter.2 ⟨g1,by unfold selB;rw[hk,g2];rfl⟩,f2⟩
 ·rintro⟨f,f1,f2⟩
  obtain⟨g1,g2⟩:=List.mem_filter.1 f1
  unfold selB at g2
  simp only[Bool.and_eq_true]at g2
  exact⟨f,(hm f).2 ⟨g1,g2.2⟩,f2⟩
end Go.Sw
