/- The plain laws that a law needs, with no program in sight. -/
import Derived.Test.YtkfjchmhgpkcbaaGreatW31Ca
set_option linter.unusedVariables false
set_option linter.unusedSimpArgs false
namespace Go.Sw
def inR(lo hi x:Int):Bool:=decide (lo<=x)&&decide (x<=hi)
def okN(c:Nat):Bool:=(decide (97<=c)&&decide (c<=122))||(decide (48<=c)&&decide (c<=57))||decide (c=95)
def okAN(c:Nat):Bool:=decide (97<=c)&&decide (c<=122)
def okC(c:UInt8):Bool:=okN c.toNat
def okA(c:UInt8):Bool:=okAN c.toNat
def kwL:List (List UInt8):=[[99,111,117,114,115,101],[109,97,116,115],[115,116,97,114,116],[112,97,115,115],[101,110,100],[108,101,103],[116,111],[100,105,115,116,97,110,99,101],[103,117,110],[99,104,105,112],[115,108,111,116],[108,97,112,115],[108,97,112],[99,117,116,111,102,102],[101,120,116,114,97],[119,97,118,101],[111,102,102,101,110,99,101],[111,117,116],[99,97,116,101,103,111,114,121],[112,114,105,122,101],[97,108,108],[116,105,101,115],[105,102],[101,108,115,101],[97,110,100],[111,114],[110,111,116],[111,108,100,101,114],[121,111,117,110,103,101,114],[98,105,98],[100,114,97,119],[102,105,101,108,100],[115,104,111,114,116],[102,97,117,108,116,115],[109,105,115,115,101,115],[115,116,114,97,121,115],[119,105,110,100,111,119],[114,101,115,105,100,117,97,108],[100,114,105,102,116],[112,114,111,116,101,115,116],[102,101,101],[100,101,97,100,108,105,110,101]]
def goodS(s:List UInt8):Bool:=decide (1<=s.length)&&decide (s.length<=24)&&(s.head?).any okA&&s.all okC
def isNameS(s:List UInt8):Bool:=goodS s&& !kwL.contains s
def diffS:List (List UInt8)->List (List UInt8)->Bool
 |_,[]=>true
 |seen,x::r=>isNameS x&& !seen.contains x&&diffS (seen++[x]) r
theorem QeM{α:Type}{l:List α}{x:α}(h:l.length<=140737488):app l [x]=some (l++[x]):=QjW l x (by omega)
def namesS(c:Course):Bool:=isNameS c.Name&&(diffS [] (c.Mats.map (·.Name))&&(diffS [] (c.Distances.map (·.Name))&&(diffS [] (c.Waves.map (·.Name))&&(diffS [] (c.Offences.map (·.Name))&&diffS [] (c.Categories.map (·.Name))))))
mutual
def partS(k:Int):Part->Bool
 |⟨m,laps,ps⟩=>bif laps==0 then inR 0 k m&&((ps.length:Int)==0)else inR 1 64 laps&&((m==0)&&(decide (0<(ps.length:Int))&&partsS k ps))
def partsS(k:Int):List Part->Bool
 |[]=>true
 |p::r=>partS k p&&partsS k r
end
def legS(k:Int)(l:Leg):Bool:=(inR 0 k l.From&&inR 0 k l.To)&&((inR 0 68719476736 l.Min&&inR 0 68719476736 l.Max)&&decide (l.Min<=l.Max))
def cutS(k:Int)(x:Cutoff):Bool:=inR 0 k x.Mat&&(decide (1<=x.Lap)&&inR 0 1099511627776 x.Limit)
def distS(k:Int)(d:Distance):Bool:=inR 1 3 d.Timing&&(inR (-1) k d.Extra&&(partsS k d.Route&&d.Cutoffs.all (cutS k)))
def offS(o:Offence):Bool:=bif o.Out then(o.Time==0)&&(o.Laps==0)else bif o.Laps != 0 then(o.Time==0)&&inR 1 64 o.Laps else inR 0 68719476736 o.Time
def catS(x:Category):Bool:=(inR 0 120 x.From&&inR 0 120 x.To)&&decide (x.From<=x.To)
def prizeS(c:Course)(p:Prize):Bool:=inR 0 ((c.Distances.length:Int)-1) p.Distance&&(inR (-1) ((c.Categories.length:Int)-1) p.Category&&(inR 1 4000 p.Rank&&inR 1 1125899906842624 p.Amount))
def lastS(c:Course):Bool:=(inR 0 16 c.Faults.Misses&&inR 0 16 c.Faults.Strays)&&((inR 0 4294967296 c.Faults.Window&&inR 0 4294967296 c.Faults.Residual)&&(inR 0 100000 c.Faults.Drift&&(inR 0 1125899906842624 c.Fee&&inR 0 1099511627776 c.Deadline)))
def legKey(l:Leg):typing_ends:={from_:=l.From,to_:=l.To}
def prizeKey(p:Prize):typing_place:={distance:=p.Distance,category:=p.Category,rank:=p.Rank}
def numbersS(c:Course):Bool:=
 let k:=(c.Mats.length:Int)-1
 c.Mats.all (fun m=>inR 1 3 m.Kind)&&(c.Legs.all (legS k)&&(decide ((c.Legs.map legKey).Nodup)&&(c.Distances.all (distS k)&&(c.Waves.all (fun w=>inR 0 1099511627776 w.Gun)&&(c.Offences.all offS&&(c.Categories.all catS&&(c.Prizes.all (prizeS c)&&(decide ((c.Prizes.map prizeKey).Nodup)&&lastS c))))))))
theorem Yu{α B:Type}{step:Nat->Int->Option (Ctl Int B)}(l:List α)(ok:α->Bool)(bx b:B)(hl:l.length<=4611686018427387904)
  (hs:∀i x,At l i x->Ev (fun n=>step n (i:Int)) (bif ok x then .cont ((i+1:Nat):Int)else .done bx))(hd:Ev (fun n=>step n (l.length:Int)) (.done b)):
  Ev (fun n=>Go.Sw.iter (step n) n 0) (bif l.all ok then b else bx):=by
 have e:(bif l.all ok then b else bx)=bif l.any (fun x=> !ok x)then bx else b:=by
  rw[<- List.not_all_eq_any_not]
  cases l.all ok<;>rfl
 rw[e]
 refine QfK l (fun x=> !ok x) (fun i=>(i:Int)) bx b hl rfl (fun i x ha hq=>?_) (fun i x ha hq=>?_) hd
 ·have h:ok x=true:=by simpa using hq
  have:=hs i x ha
  rwa [h]at this
 ·have h:ok x=false:=by simpa using hq
  have:=hs i x ha
  rwa [h]at this
mutual
def cN:Cond->Nat
 |⟨_,_,_,ps⟩=>1+cNs ps
def cNs:List Cond->Nat
 |[]=>0
 |c::r=>cN c+cNs r
end
mutual
def cD:Nat->Cond->Bool
 |d,⟨_,_,_,ps⟩=>cDs d ps
def cDs:Nat->List Cond->Bool
 |_,[]=>true
 |d,c::r=>decide (d<=16)&&(cD (d+1) c&&cDs d r)
end
def zeroC(c:Cond):Bool:=(c.Kind==0)&&((c.Var==0)&&((c.N==0)&&((c.Parts.length:Int)==0)))
mutual
def sNp:Step->Nat
 |⟨_,_,_,t,e⟩=>1+sNs t+sNs e
def sNs:List Step->Nat
 |[]=>0
 |s::r=>sNp s+sNs r
end
mutual
def sC:Step->Nat
 |⟨_,_,c,t,e⟩=>(bif zeroC c then 0 else cN c)+sCs t+sCs e
def sCs:List Step->Nat
 |[]=>0
 |s::r=>sC s+sCs r
end
mutual
def sDp:Nat->Step->Bool
 |d,⟨_,_,c,t,e⟩=>(zeroC c||cD 1 c)&&(sDs d t&&sDs d e)
def sDs:Nat->List Step->Bool
 |_,[]=>true
 |d,s::r=>decide (d<=16)&&(sDp (d+1) s&&sDs d r)
end
def fS:typing_form->Nat
 |.ctyping_step x=>sNp x.Step
 |.ctyping_cond _=>0
def fC:typing_form->Nat
 |.ctyping_step x=>sC x.Step
 |.ctyping_cond x=>cN x.Cond
def fD(d:Nat):typing_form->Bool
 |.ctyping_step x=>sDp d x.Step
 |.ctyping_cond x=>cD d x.Cond
def fSs(l:List typing_form):Nat:=(l.map fS).sum
def fCs(l:List typing_form):Nat:=(l.map fC).sum
def okR(l:List typing_form)(d:Nat)(st co:Int):Bool:=l.isEmpty||(l.all (fD (d+1))&&(decide (st+fSs l<=64)&&decide (co+fCs l<=256)))
mutual
def vaC:Cond->Bool
 |⟨k,v,n,ps⟩=>bif k==1 then inR 1 3 v&&(inR 0 10000 n&&((ps.length:Int)==0))else
   bif k==4 then((v==0)&&(n==0))&&(((ps.length:Int)==1)&&vaCs ps)else
   bif (k==2)||(k==3)then((v==0)&&(n==0))&&((decide (0<(ps.length:Int))&&decide ((ps.length:Int)<=16))&&vaCs ps)else false
def vaCs:List Cond->Bool
 |[]=>true
 |c::r=>vaC c&&vaCs r
end
mutual
def vaS:Step->Bool
 |⟨k,b,c,t,e⟩=>bif k==1 then inR 1 5 b&&(zeroC c&&(((t.length:Int)==0)&&((e.length:Int)==0)))else
   bif k==2 then(b==0)&&(vaC c&&(decide (0<(t.length:Int))&&(vaSs t&&vaSs e)))else false
def vaSs:List Step->Bool
 |[]=>true
 |s::r=>vaS s&&vaSs r
end
def goodT(l:List Step):Bool:=sDs 0 l&&(decide (sNs l<=64)&&decide (sCs l<=256))
def tiesE(l:List Step):Int:=bif goodT l then(bif l.isEmpty|| !vaSs l then 71 else 0)else 2
theorem Qb3{α:Type}(l:List α):((l.length:Int)==0)=l.isEmpty:=by
 cases l<;>simp
 omega
def repS:Nat->List Int->List Int->List Int
 |0,out,_=>out
 |k+1,out,lap=>if 256<out.length then out else repS k (out++lap) lap
mutual
def lapS:Part->List Int
 |⟨m,laps,ps⟩=>bif decide (0<laps)then expS [] ps else[m]
def expS:List Int->List Part->List Int
 |out,[]=>out
 |out,p::r=>expS (repS (p.Laps.toNat+(bif decide (0<p.Laps)then 0 else 1)) out (lapS p)) r
end
def kindAt(c:Course)(m:Int):Int:=((c.Mats[m.toNat]?).map (·.Kind)).getD 0
def hasLeg(c:Course)(a b:Int):Bool:=c.Legs.any fun l=>(l.From==a)&&(l.To==b)
def rokS(c:Course)(len:Nat):Nat->Int->List Int->Bool
 |_,_,[]=>true
 |i,prev,m::r=>((kindAt c m==1)==decide (i=0))&&(((kindAt c m==3)==decide (i+1=len))&&((decide (i=0)||hasLeg c prev m)&&rokS c len (i+1) m r))
def routeR(c:Course)(d:Distance)(r:List Int):Bool:=
 (decide (2<=r.length)&&decide (r.length<=256))&&(rokS c r.length 0 0 r&&((bif decide (0<=d.Extra)then !((r.count d.Extra:Int)==0)&&((kindAt c d.Extra==2)&&hasLeg c d.Extra d.Extra)else true)&&d.Cutoffs.all fun x=>decide (x.Lap<=(r.count x.Mat:Int))))
def routeS(c:Course)(d:Distance):Bool:=routeR c d (expS [] d.Route)
structure NumOk (c:Course):Prop where
 kinds:∀m∈c.Mats,1<=m.Kind/\m.Kind<=3
 dist:∀d∈c.Distances,-1<=d.Extra/\d.Extra<=(c.Mats.length:Int)-1/\partsS ((c.Mats.length:Int)-1) d.Route=true
theorem NumOk.of{c:Course}(h:numbersS c=true):NumOk c:=by
 unfold numbersS at h
 simp only[Bool.and_eq_true,List.all_eq_true]at h
 refine⟨fun m hm=>?_,fun d hd=>?_⟩
 ·have:=h.1 m hm
  unfold inR at this
  simpa using this
 ·have:=h.2.2.2.1 d hd
  unfold distS at this
  simp only[Bool.and_eq_true]at this
  obtain⟨_,h2,h3,_⟩:=this
  unfold inR at h2
  simp only[Bool.and_eq_true,decide_eq_true_eq]at h2
  exact⟨h2.1,h2.2,h3⟩
def fitsS(c:Course):Bool:=
 !(decide (40<(c.Mats.length:Int))||(decide (512<(c.Legs.length:Int))||(decide (8<(c.Distances.length:Int))||(decide (32<(c.Waves.length:Int))||(decide (32<(c.Offences.length:Int))||(decide (32<(c.Categories.length:Int))||decide (32<(c.Prizes.length:Int))))))))
  &&c.Distances.all fun d=> !decide (64<(d.Cutoffs.length:Int))
def courseE(c:Course):Int:=
 bif fitsS c then bif namesS c then bif numbersS c then bif tiesE c.Ties==0 then bif c.Distances.all (routeS c)then 0 else 72 else tiesE c.Ties else 71 else 70 else 2
theorem QjV{α:Type}(l m:List α)(h:l.length+m.length<=4294967296):app l m=some (l++m):=by
 unfold app
 rw[Nat.ble_eq_true_of_le (by unfold QV;exact h)];rfl
set_option maxRecDepth 4000
def cmpI(a b:Int):Int:=bif decide (a<b)then-1 else bif decide (b<a)then 1 else 0
theorem QjQ(n:Nat)(a b:Int):F_b n a b=some (cmpI a b):=by
 unfold F_b F_ai cmpI
 simp only[Option.bind_some,bne_self_eq_false,cond_false]
 cases decide (a<b)with
 |true=>rfl
 |false=>cases decide (b<a)<;>rfl
def orL:List Int->Int
 |[]=>0
 |x::r=>bif x != 0 then x else orL r
theorem ev_or(l:List Int)(hl:l.length<=1000):Ev (fun n=>F_f n l) (orL l):=by
 unfold F_f
 have loop:∀(r:List Int) (i:Nat),l.drop i=r->i<=l.length->EvI (fun n=>F_da n l) (i:Int) (bif orL r==0 then Ctl.cont ()else Ctl.done (orL r)):=by
  intro r
  induction r with
  |nil=>
   intro i hr hi
   refine EvI.done ?_
   unfold F_da
   simp only[Qdr hr hi,cond_false]
   exact Qb _
  |cons x r ih=>
   intro i hr hi
   obtain⟨ha,hr'⟩:=QbU (by omega) hr
   have hlt:=ha.lt'
   unfold orL
   cases q:(x != 0)with
   |true=>
    have e:(x==0)=false:=by simpa[bne]using q
    simp only[cond_true,e,cond_false]
    refine EvI.done ?_
    unfold F_da
    simp only[ha.lt,cond_true,ha.ix,Option.bind_some,q]
    exact Qb _
   |false=>
    simp only[cond_false]
    refine EvI.cont ?_ (ih (i+1) hr' (by omega))
    unfold F_da
    simp only[ha.lt,cond_true,ha.ix,Option.bind_some,q,cond_false,ha.nx]
    exact Qb _
 refine Ev.bind (loop l 0 rfl (Nat.zero_le _)).ev ?_
 cases h:(orL l==0)with
 |true=>
  have e:orL l=0:=by simpa using h
  rw[e]
  exact Qb _
 |false=>exact Qb _
theorem QjU{a b:Int}:cmpI a b<0↔a<b:=by
 unfold cmpI
 by_cases h:a<b
 ·rw[decide_eq_true h];simp[h]
 ·rw[decide_eq_false h]
  by_cases h2:b<a
  ·rw[decide_eq_true h2];simp;omega
  ·rw[decide_eq_false h2];simp;omega
theorem Qk2{a b:Int}:cmpI a b=0↔a=b:=by
 unfold cmpI
 by_cases h:a<b
 ·rw[decide_eq_true h];simp;omega
 ·rw[decide_eq_false h]
  by_cases h2:b<a
  ·rw[decide_eq_true h2];simp;omega
  ·rw[decide_eq_false h2];simp;omega
set_option maxRecDepth 4000
section
variable {α:Type}{c d:α->α->Int}
end
def EvL{S T B:Type}(step:Nat->S->Option (List T×Ctl S B))(s:S)(r:List T×B):Prop:=∃N,∀n k,N<=n->N<=k->Qba (step n) k s=some r
theorem EvL.done{S T B:Type}{step:Nat->S->Option (List T×Ctl S B)}{s:S}{z:List T}{b:B}(h:Ev (fun n=>step n s) (z,.done b)):EvL step s (z,b):=by
 obtain⟨N,h⟩:=h
 refine⟨N+1,fun n k hn hk=>?_⟩
 obtain⟨j,rfl⟩:∃j,k=j+1:=⟨k-1,by omega⟩
 simp only[Qba,h n (by omega),Option.bind_some]
theorem EvL.cont{S T B:Type}{step:Nat->S->Option (List T×Ctl S B)}{s s':S}{z ys:List T}{b:B}(h:Ev (fun n=>step n s) (z,.cont s'))(q:EvL step s' (ys,b)):EvL step s (z++ys,b):=by
 obtain⟨N,h⟩:=h
 obtain⟨M,q⟩:=q
 refine⟨max N M+1,fun n k hn hk=>?_⟩
 obtain⟨j,rfl⟩:∃j,k=j+1:=⟨k-1,by omega⟩
 simp only[Qba,h n (by omega),Option.bind_some,q n j (by omega) (by omega)]
theorem EvL.ev{S T B:Type}{step:Nat->S->Option (List T×Ctl S B)}{s:S}{r:List T×B}(h:EvL step s r):Ev (fun n=>Qba (step n) n s) r:=by
 obtain⟨N,h⟩:=h
 exact⟨N,fun n hn=>h n n hn hn⟩
theorem EvL.eq{S T B:Type}{step:Nat->S->Option (List T×Ctl S B)}{s:S}{r r':List T×B}(h:EvL step s r)(e:r=r'):EvL step s r':=e▸h
theorem QaA(p:Nat->Bool):∀k,(∀i,i<k->p i=true)\/ ∃j,j<k/\p j=false/\ ∀i,i<j->p i=true
 |0=>.inl fun i h=>absurd h (Nat.not_lt_zero _)
 |k+1=>by
  rcases QaA p k with h|⟨j,h1,h2,h3⟩
  ·cases q:p k with
   |true=>exact .inl fun i hi=>(Nat.lt_succ_iff_lt_or_eq.1 hi).elim (h i) fun e=>e▸q
   |false=>exact .inr ⟨k,Nat.lt_succ_self _,q,h⟩
  ·exact .inr ⟨j,by omega,h2,h3⟩
theorem QgZ{p:Nat->Bool}{k:Nat}:(List.range k).all p=true↔ ∀i,i<k->p i=true:=by simp[List.all_eq_true]
theorem Yx{B:Type}{step:Nat->Int->Option (Ctl Int B)}(k:Nat)(p:Nat->Bool)(bx b:B)
  (hc:∀i,i<k->Ev (fun n=>step n (i:Int)) (bif p i then .cont ((i+1:Nat):Int)else .done bx))(hd:Ev (fun n=>step n (k:Int)) (.done b)):
  Ev (fun n=>Go.Sw.iter (step n) n 0) (bif (List.range k).all p then b else bx):=by
 rcases QaA p k with h|⟨j,h1,h2,h3⟩
 ·rw[QgZ.2 h]
  exact Ev.iter (fun i=>(i:Int)) k rfl (fun i hi=>(hc i hi).eq (by rw[h i hi];rfl)) hd
 ·have:(List.range k).all p=false:=by
   rw[Bool.eq_false_iff]
   intro q
   rw[QgZ.1 q j h1]at h2
   cases h2
  rw[this]
  exact Ev.iter (fun i=>(i:Int)) j rfl (fun i hi=>(hc i (by omega)).eq (by rw[h3 i hi];rfl)) ((hc j h1).eq (by rw[h2];rfl))
theorem atN{α:Type}{l:List α}{i:Nat}(hl:l.length<=1048576)(hi:i<l.length):At l i l[i]:=Qa7 (by omega) (List.getElem?_eq_getElem hi)
theorem Q8{n:Nat}(h:n<=1048576):IntKind.i64.wrap ((n:Int)+1)=((n+1:Nat):Int):=QdS (by omega)
def segLt(x y:Segment):Bool:=decide (x.Mat<y.Mat)||((x.Mat==y.Mat)&&decide (x.Epoch<y.Epoch))
def cmpSeg(x y:Segment):Int:=orL [cmpI x.Mat y.Mat,cmpI x.Epoch y.Epoch]
theorem Qhj(x y:Segment):decide (0<=cmpSeg x y)= !segLt x y:=by
 unfold cmpSeg segLt orL orL orL cmpI
 by_cases h1:x.Mat<y.Mat
 ·simp[h1]
 ·by_cases h2:y.Mat<x.Mat
  ·have:¬x.Mat=y.Mat:=by omega
   simp[h1,h2,this]
  ·have:x.Mat=y.Mat:=by omega
   by_cases h3:x.Epoch<y.Epoch
   ·simp[h1,h2,this,h3]
   ·by_cases h4:y.Epoch<x.Epoch
    ·simp[h1,h2,this,h3,h4]
    ·simp[h1,h2,this,h3,h4]
theorem QeH(a b:Int):Ev (fun n=>F_b n a b) (cmpI a b):=QdN (Qb _) fun n=>QjQ n a b
theorem Qfn(x y:Segment):Ev (fun n=>F_al n x y) (cmpSeg x y):=by
 unfold F_al F_cz
 exact Ev.bind (Ev.bind (QeH _ _) (Ev.bind (QeH _ _) (Ev.bind (ev_or _ (by simp)) (Qb _)))) (Qb _)
def timeB(x:Int):Bool:=inR (-1099511627776) 1099511627776 x
theorem Qg8(x:Int):Ev (fun n=>F_ae n x) (timeB x):=by
 unfold F_ae timeB inR
 exact Ev.bind (Ev.and fun _=>Qb _) (Qb _)
def prevSeg(c:Clocks)(i:Nat)(x:Segment):Bool:=decide (0<(i:Int))&& !(match c.Segments[i-1]? with|some y=>segLt y x|none=>true)
def segBad(c:Clocks)(i:Nat)(x:Segment):Bool:=decide (x.Mat<0)||(decide (40<=x.Mat)||(decide (x.Epoch<0)||(decide (255<x.Epoch)||(!timeB x.Anchor||prevSeg c i x))))
def segsB(c:Clocks):Bool:=(List.range c.Segments.length).all fun i=>match c.Segments[i]? with|some x=> !segBad c i x|none=>true
theorem Qdl{α:Type}{l:List α}{i:Nat}{y:α}(hl:l.length<=1048576)(hi:0<i)(hlt:i<=l.length)(h:l[i-1]?=some y):idx l (IntKind.i64.wrap ((i:Int)-1))=some y:=by
 rw[Qci (by omega) (by omega),show((i:Int)-1)=((i-1:Nat):Int)by omega]
 exact Qo h
theorem QjK(c:Clocks)(hl:c.Segments.length<=1048576):Ev (fun n=>iter (F_fu n c) n 0) (bif segsB c then Ctl.cont ()else Ctl.done 160):=by
 unfold segsB
 refine Yx c.Segments.length _ _ _ (fun i hi=>?_) ?_
 ·have ha:=atN hl hi
  unfold F_fu
  simp only[ha.lt,cond_true,ha.ix,Option.bind_some,ha.nx,ha.get]
  have:Ev (fun n=>((bif decide ((c.Segments[i]).Mat<0)then some true else(bif decide (40<=(c.Segments[i]).Mat)then some true else(bif decide ((c.Segments[i]).Epoch<0)then some true else(bif decide (255<(c.Segments[i]).Epoch)then some true else(F_ae n (c.Segments[i]).Anchor).bind fun r70=>(bif (!r70)then some true else(bif decide (0<(i:Int))then(idx c.Segments (IntKind.i64.wrap ((i:Int)-1))).bind fun x73=>(F_al n x73 (c.Segments[i])).bind fun r74=>some (decide (0<=r74))else some false)))))):Option Bool)) (segBad c i (c.Segments[i])):=by
   unfold segBad
   refine QD fun _=>QD fun _=>QD fun _=>QD fun _=>Ev.bind (Qg8 _) (QD fun _=>?_)
   unfold prevSeg
   refine Ev.and fun h=>?_
   have h0:0<i:=by have:=of_decide_eq_true h;omega
   have h1:i-1<c.Segments.length:=by omega
   rw[Qdl hl h0 (by omega) (List.getElem?_eq_getElem h1),List.getElem?_eq_getElem h1]
   simp only[Option.bind_some]
   exact Ev.bind (Qfn _ _) ((Qb _).eq (Qhj _ _))
  refine Ev.bind this ?_
  cases segBad c i (c.Segments[i])<;>exact Qb _
 ·unfold F_fu
  simp only[Qac,cond_false]
  exact Qb _
def farBad(x:Int):Bool:=decide (x< -2199023255552)||decide (2199023255552<x)
theorem Qha(l:List Int)(hl:l.length<=1048576):Ev (fun n=>F_ap n l) (l.any farBad):=by
 unfold F_ap F_df
 refine Ev.contains l farBad (fun n x=>F_ak n x) (by omega) fun x _=>?_
 unfold F_ak farBad
 exact Ev.bind (QD fun _=>Qb _) (Qb _)
def rowB(c:Clocks)(i:Nat)(r:List Int):Bool:= !(((r.length:Int) != ((c.Segments.length+1:Nat):Int))||((r[i]?.getD 1 != 0)||r.any farBad))
def rowsB(c:Clocks):Bool:=(List.range c.Far.length).all fun i=>match c.Far[i]? with|some r=>rowB c i r|none=>true
theorem QjN(c:Clocks)(h0:c.Segments.length<=1048576)(h1:c.Far.length<=1048576)(h2:∀r∈c.Far,r.length<=1048576)(hd:c.Far.length=c.Segments.length+1):
  Ev (fun n=>iter (F_fr n c) n 0) (bif rowsB c then Ctl.cont ()else Ctl.done 160):=by
 unfold rowsB
 refine Yx c.Far.length _ _ _ (fun i hi=>?_) ?_
 ·have ha:=atN h1 hi
  unfold F_fr
  simp only[ha.lt,cond_true,ha.ix,Option.bind_some,ha.nx,ha.get,Q8 h0]
  have:Ev (fun n=>((bif (((c.Far[i]).length:Int) != ((c.Segments.length+1:Nat):Int))then some true else(idx (c.Far[i]) (i:Int)).bind fun x118=>(bif (x118 != 0)then some true else(F_ap n (c.Far[i])).bind fun r120=>some r120)):Option Bool)) (!rowB c i (c.Far[i])):=by
   unfold rowB
   rw[Bool.not_not]
   refine QD fun h=>?_
   have hlen:(c.Far[i]).length=c.Segments.length+1:=by
    have:((c.Far[i]).length:Int)=((c.Segments.length+1:Nat):Int):=by simpa[bne]using h
    omega
   have hlt:i<(c.Far[i]).length:=by omega
   rw[Qo (List.getElem?_eq_getElem hlt),List.getElem?_eq_getElem hlt]
   simp only[Option.bind_some,Option.getD_some]
   exact QD fun _=>Ev.bind (Qha _ (h2 _ ha.mem)) (Qb _)
  refine Ev.bind this ?_
  cases rowB c i (c.Far[i])<;>exact Qb _
 ·unfold F_fr
  simp only[Qac,cond_false]
  exact Qb _
def farG(c:Clocks)(i j:Nat):Int:=((c.Far[i]?.getD [])[j]?).getD 0
structure Dims (c:Clocks):Prop where
 segs:c.Segments.length<=511
 far:c.Far.length=c.Segments.length+1
 row:∀i,i<c.Far.length->(c.Far[i]?.getD []).length=c.Segments.length+1
theorem Dims.get{c:Clocks}(d:Dims c){i j:Nat}(hi:i<c.Segments.length+1)(hj:j<c.Segments.length+1):c.Far[i]?=some (c.Far[i]?.getD [])/\(c.Far[i]?.getD [])[j]?=some (farG c i j):=by
 have h1:i<c.Far.length:=by rw[d.far];exact hi
 have h2:=d.row i h1
 refine⟨by rw[List.getElem?_eq_getElem h1];rfl,?_⟩
 unfold farG
 have:j<(c.Far[i]?.getD []).length:=by omega
 rw[List.getElem?_eq_getElem this];rfl
def triB(c:Clocks):Bool:=(List.range (c.Segments.length+1)).all fun i=>(List.range (c.Segments.length+1)).all fun j=>(List.range (c.Segments.length+1)).all fun k=> !decide (IntKind.i64.wrap (farG c i j+farG c j k)<farG c i k)
theorem ltN{a b:Nat}(h:a<b):decide ((a:Int)<(b:Int))=true:=decide_eq_true (by omega)
theorem geN{a b:Nat}(h:b<=a):decide ((a:Int)<(b:Int))=false:=decide_eq_false (by omega)
theorem QkM(c:Clocks)(d:Dims c):Ev (fun n=>iter (F_gs n c) n 0) (bif triB c then Ctl.cont ()else Ctl.done 160):=by
 have hs:=d.segs
 unfold triB
 refine Yx (c.Segments.length+1) _ _ _ (fun i hi=>?_) ?_
 ·unfold F_gs
  have g:=(d.get hi hi).1
  have hr:=d.row i (by rw[d.far];exact hi)
  simp only[Q8 (show c.Segments.length<=1048576 by omega),ltN hi,cond_true,Qo g,Option.bind_some,Q8 (show i<=1048576 by omega)]
  refine Ev.bind (Yx (c.Segments.length+1) (fun j=>(List.range (c.Segments.length+1)).all fun k=> !decide (IntKind.i64.wrap (farG c i j+farG c j k)<farG c i k)) (Ctl.done (Ctl.done (Ctl.done 160))) (Ctl.cont ()) (fun j hj=>?_) ?_) ?_
  ·unfold F_je
   have g1:=(d.get hi hj).2
   have g2:=(d.get hj hj).1
   have hr2:=d.row j (by rw[d.far];exact hj)
   simp only[hr,ltN hj,cond_true,Qo g1,Qo g2,Option.bind_some,Q8 (show j<=1048576 by omega)]
   refine Ev.bind (Yx (c.Segments.length+1) (fun k=> !decide (IntKind.i64.wrap (farG c i j+farG c j k)<farG c i k)) (Ctl.done (Ctl.done (Ctl.done (Ctl.done (Ctl.done 160))))) (Ctl.cont ()) (fun k hk=>?_) ?_) ?_
   ·unfold F_iy
    have g3:=(d.get hj hk).2
    have g4:=(d.get hi hk).2
    simp only[hr2,ltN hk,cond_true,Qo g3,Qo g,Qo g4,Option.bind_some,Q8 (show k<=1048576 by omega)]
    cases decide (IntKind.i64.wrap (farG c i j+farG c j k)<farG c i k)<;>exact Qb _
   ·unfold F_iy
    simp only[hr2,geN (Nat.le_refl _),cond_false]
    exact Qb _
   ·cases(List.range (c.Segments.length+1)).all fun k=> !decide (IntKind.i64.wrap (farG c i j+farG c j k)<farG c i k)<;>exact Qb _
  ·unfold F_je
   simp only[hr,geN (Nat.le_refl _),cond_false]
   exact Qb _
  ·cases(List.range (c.Segments.length+1)).all fun j=>(List.range (c.Segments.length+1)).all fun k=> !decide (IntKind.i64.wrap (farG c i j+farG c j k)<farG c i k)<;>exact Qb _
 ·unfold F_gs
  simp only[Q8 (show c.Segments.length<=1048576 by omega),geN (Nat.le_refl _),cond_false]
  exact Qb _
def clkB(c:Clocks):Bool:= !(decide (511<(c.Segments.length:Int))||((c.Far.length:Int) != ((c.Segments.length+1:Nat):Int)))&&(segsB c&&(rowsB c&&triB c))
structure ClkW (c:Clocks):Prop where
 segs:c.Segments.length<=1048576
 far:c.Far.length<=1048576
 row:∀r∈c.Far,r.length<=1048576
theorem QeI{c:Clocks}(h1:¬511<(c.Segments.length:Int))(h2:c.Far.length=c.Segments.length+1)(h3:rowsB c=true):Dims c:=by
 refine⟨by omega,h2,fun i hi=>?_⟩
 have:=QgZ.1 h3 i hi
 rw[List.getElem?_eq_getElem hi]at this⊢
 simp only[rowB,Bool.not_eq_true',Bool.or_eq_false_iff]at this
 have e:((c.Far[i]).length:Int)=((c.Segments.length+1:Nat):Int):=by simpa[bne]using this.1
 simp only[Option.getD_some]
 omega
theorem QiO(c:Clocks)(w:ClkW c):Ev (fun n=>F_s n c) (bif clkB c then 0 else 160):=by
 unfold F_s clkB
 simp only[Q8 w.segs]
 refine Ev.bind (QD fun _=>Qb _) ?_
 cases h0:(decide (511<(c.Segments.length:Int))||((c.Far.length:Int) != ((c.Segments.length+1:Nat):Int)))with
 |true=>exact Qb _
 |false=>
  simp only[Bool.not_false,Bool.true_and,Bool.or_eq_false_iff,decide_eq_false_iff_not]at h0⊢
  have hd:c.Far.length=c.Segments.length+1:=by
   have:(c.Far.length:Int)=((c.Segments.length+1:Nat):Int):=by simpa[bne]using h0.2
   omega
  refine Qbq (Ev.bind (QjK c w.segs) ?_)
  cases segsB c with
  |false=>exact Qb _
  |true=>
   refine Ev.bind (QjN c w.segs w.far w.row hd) ?_
   cases h3:rowsB c with
   |false=>exact Qb _
   |true=>
    refine Ev.bind (QkM c (QeI h0.1 hd h3)) ?_
    cases triB c<;>exact Qb _
theorem Qhk{c:Clocks}(h:clkB c=true):Dims c:=by
 simp only[clkB,Bool.and_eq_true,Bool.not_eq_true',Bool.or_eq_false_iff,decide_eq_false_iff_not]at h
 have hd:c.Far.length=c.Segments.length+1:=by
  have:(c.Far.length:Int)=((c.Segments.length+1:Nat):Int):=by simpa[bne]using h.1.2
  omega
 exact QeI h.1.1 hd h.2.2.1
theorem QeX{S B:Type}{step:Nat->S->Option (Ctl S B)}{s0:S}(st:Nat->S)(k:Nat)(p:Nat->Bool)(bx b:B)(h0:st 0=s0)
  (hc:∀i,i<k->(∀j,j<i->p j=true)->Ev (fun n=>step n (st i)) (bif p i then .cont (st (i+1))else .done bx))(hd:(∀j,j<k->p j=true)->Ev (fun n=>step n (st k)) (.done b)):
  Ev (fun n=>Go.Sw.iter (step n) n s0) (bif (List.range k).all p then b else bx):=by
 rcases QaA p k with h|⟨j,h1,h2,h3⟩
 ·rw[QgZ.2 h]
  exact Ev.iter st k h0 (fun i hi=>(hc i hi fun j hj=>h j (by omega)).eq (by rw[h i hi];rfl)) (hd h)
 ·have:(List.range k).all p=false:=by
   rw[Bool.eq_false_iff]
   intro q
   rw[QgZ.1 q j h1]at h2
   cases h2
  rw[this]
  exact Ev.iter st j h0 (fun i hi=>(hc i (by omega) fun j hj=>h3 j (by omega)).eq (by rw[h3 i hi];rfl)) ((hc j h1 h3).eq (by rw[h2];rfl))
structure FewF (f:Field):Prop where
 runs:f.Runners.length<=6
 pairs:f.Pairs.length<=3
 segs:f.Clocks.Segments.length<=4
 far:f.Clocks.Far.length<=6
 row:∀r∈f.Clocks.Far,r.length<=8
 keys:∀r∈f.Runners,r.Keys.length<=5
 wlds:∀r∈f.Runners,r.Worlds.length<=4
 outs:∀r∈f.Runners,∀w∈r.Worlds,w.length<=4
theorem FewF.clk{f:Field}(h:FewF f):ClkW f.Clocks:=⟨by have:=h.segs;omega,by have:=h.far;omega,fun r hr=>by have:=h.row r hr;omega⟩
def fineO(c:Clocks)(x:Outcome):Bool:=decide (-1<=x.Seg)&&(decide (x.Seg<(c.Segments.length:Int))&&(decide (-288230376151711744<=x.Lo)&&(decide (x.Lo<=x.Hi)&&decide (x.Hi<=288230376151711744))))
def outB(c:Clocks)(x:Outcome):Bool:=bif x.Out then x==({Out:=true,Seg:=(-1),Lo:=0,Hi:=0:Outcome})else fineO c x
theorem Qfp(c:Clocks)(w:ClkW c)(h:clkB c=true)(x:Outcome):Ev (fun n=>F_ce n c x) (bif outB c x then 0 else 230):=by
 unfold F_ce
 refine Ev.bind (QiO c w) ?_
 rw[h]
 refine Qbq (Ev.bind (v:=fineO c x) (Ev.and fun _=>Ev.and fun _=>Ev.and fun _=>Ev.and fun _=>Qb _) ?_)
 refine Ev.bind (v:=outB c x) ?_ ?_
 ·unfold outB F_cl
  exact Qar (fun _=>Ev.bind (Qb _) (Qb _)) (fun _=>Qb _)
 ·cases outB c x<;>exact Qb _
def pairBad(p last:Pair):Bool:=decide (p.A<1)||(decide (p.B<=p.A)||(decide (9999<p.B)||(decide (p.A<last.A)||((p.A==last.A)&&decide (p.B<=last.B)))))
def lastP(f:Field):Nat->Pair
 |0=>{A:=0,B:=0}
 |j+1=>(f.Pairs[j]?).getD {A:=0,B:=0}
def pairsB(f:Field):Bool:=(List.range f.Pairs.length).all fun i=> !pairBad (lastP f (i+1)) (lastP f i)
theorem Qg9(f:Field)(hl:f.Pairs.length<=1048576):Ev (fun n=>iter (F_ik n f) n ({A:=0,B:=0:Pair},0)) (bif pairsB f then Ctl.cont ()else Ctl.done 240):=by
 unfold pairsB
 refine QeX (fun i=>(lastP f i,(i:Int))) f.Pairs.length _ _ _ rfl (fun i hi _=>?_) (fun _=>?_)
 ·have ha:=atN hl hi
  have e:lastP f (i+1)=f.Pairs[i]:=by show(f.Pairs[i]?).getD _=_;rw[List.getElem?_eq_getElem hi];rfl
  unfold F_ik
  simp only[ha.lt,cond_true,ha.ix,Option.bind_some,ha.nx,e]
  refine Ev.bind (v:=pairBad f.Pairs[i] (lastP f i)) ?_ ?_
  ·unfold pairBad
   exact QD fun _=>QD fun _=>QD fun _=>QD fun _=>Ev.and fun _=>Qb _
  ·cases pairBad f.Pairs[i] (lastP f i)<;>exact Qb _
 ·unfold F_ik
  simp only[Qac,cond_false]
  exact Qb _
theorem Qhd(l:List (List Outcome))(h1:l.length<=1048576)(h2:l.flatten.length<=1048576):Ev (fun n=>F_ax n l) l.flatten:=by
 have len_le:∀i,((l.take i).flatten).length<=l.flatten.length:=by
  intro i
  conv=>rhs;rw[<- List.take_append_drop i l]
  rw[List.flatten_append,List.length_append]
  omega
 have len_nx:∀i x,At l i x->(l.take (i+1)).flatten=(l.take i).flatten++x:=by
  intro i x ha
  rw[ha.take,List.flatten_append];simp
 unfold F_ax
 refine Ev.bind (v:=(l.flatten.length:Int)) ?_ (Ev.bind (v:=[]) ?_ (Ev.bind (v:=l.flatten) ?_ (Qb _)))
 ·refine(Ev.iter (fun i=>((((l.take i).flatten).length:Int),(i:Int))) l.length rfl (fun i hi=>?_) ?_)
  ·have ha:=atN h1 hi
   have hn:=len_le (i+1)
   rw[len_nx i _ ha,List.length_append]at hn
   have e:IntKind.i64.wrap ((((l.take i).flatten).length:Int)+((l[i]).length:Int))=((((l.take i).flatten).length+(l[i]).length:Nat):Int):=by rw[Qci (by omega) (by omega)];omega
   unfold F_im
   simp only[ha.lt,cond_true,ha.ix,Option.bind_some,ha.nx,e,QaM (show¬((((l.take i).flatten).length+(l[i]).length:Nat):Int)<0 by omega),cond_false]
   rw[len_nx i _ ha,List.length_append]
   exact Qb _
  ·unfold F_im
   simp only[Qac,cond_false,List.take_length]
   exact Qb _
 ·unfold F_co
  simp only[QaM (show¬(l.flatten.length:Int)<0 by omega),cond_false,Option.bind_some,Int.sub_zero]
  have e:IntKind.i64.wrap (l.flatten.length:Int)=(l.flatten.length:Int):=Qci (by omega) (by omega)
  rw[e]
  by_cases h0:0<(l.flatten.length:Int)
  ·rw[QbP h0]
   have:room (l.flatten.length:Int)=some l.flatten.length:=by
    unfold room
    rw[QbP h0,QbP (show(l.flatten.length:Int)<=4294967296 by omega)]
    rfl
   rw[this]
   exact Qb _
  ·rw[QaM h0]
   exact Qb _
 ·refine(Ev.iter (fun i=>((l.take i).flatten,(i:Int))) l.length rfl (fun i hi=>?_) ?_)
  ·have ha:=atN h1 hi
   have hn:=len_le (i+1)
   rw[len_nx i _ ha,List.length_append]at hn
   unfold F_ix
   simp only[ha.lt,cond_true,ha.ix,Option.bind_some,ha.nx,QjV _ _ (show((l.take i).flatten).length+(l[i]).length<=4294967296 by omega)]
   rw[len_nx i _ ha]
   exact Qb _
  ·unfold F_ix
   simp only[Qac,cond_false,List.take_length]
   exact Qb _
def lastB(f:Field):Nat->Int
 |0=>0
 |j+1=>((f.Runners[j]?).map (·.Bib)).getD 0
def keys0(f:Field):Nat:=((f.Runners[0]?).map (·.Keys.length)).getD 0
def runBad(f:Field)(last:Int)(r:Runner):Bool:=decide (r.Bib<=last)||(decide (9999<r.Bib)||(((r.Keys.length:Int) != (keys0 f:Int))||((r.Worlds.length:Int) != ((f.Pairs.length+1:Nat):Int))))
def runB(f:Field)(i:Nat):Bool:=match f.Runners[i]? with
 |some r=> !runBad f (lastB f i) r&&r.Worlds.flatten.all (outB f.Clocks)
 |none=>true
def runsB(f:Field):Bool:=(List.range f.Runners.length).all (runB f)
theorem QjH{l:List (List Outcome)}(h:∀w∈l,w.length<=4):l.flatten.length<=4*l.length:=by
 induction l with
 |nil=>simp
 |cons w r ih=>
  have h1:=h w (List.mem_cons_self ..)
  have h2:=ih fun x hx=>h x (List.mem_cons_of_mem _ hx)
  rw[List.flatten_cons,List.length_append,List.length_cons];omega
theorem QjL(f:Field)(k:FewF f)(h:clkB f.Clocks=true):Ev (fun n=>iter (F_dw n f) n (0,0)) (bif runsB f then Ctl.cont ()else Ctl.done 240):=by
 have hr:=k.runs
 have hp:=k.pairs
 unfold runsB
 refine QeX (fun i=>(lastB f i,(i:Int))) f.Runners.length _ _ _ rfl (fun i hi _=>?_) (fun _=>?_)
 ·have ha:=atN (by omega) hi
  have e:lastB f (i+1)=(f.Runners[i]).Bib:=by show((f.Runners[i]?).map (·.Bib)).getD 0=_;rw[List.getElem?_eq_getElem hi];rfl
  have h0:0<f.Runners.length:=by omega
  have hg0:idx f.Runners 0=some f.Runners[0]:=Qo (i:=0) (List.getElem?_eq_getElem h0)
  have hk0:keys0 f=(f.Runners[0]).Keys.length:=by unfold keys0;rw[List.getElem?_eq_getElem h0];rfl
  unfold F_dw runB
  rw[ha.get]
  simp only[ha.lt,cond_true,ha.ix,Option.bind_some,ha.nx,hg0,Q8 (show f.Pairs.length<=1048576 by omega)]
  refine Ev.bind (v:=runBad f (lastB f i) f.Runners[i]) ?_ ?_
  ·unfold runBad
   rw[hk0]
   exact QD fun _=>QD fun _=>QD fun _=>Qb _
  ·cases runBad f (lastB f i) f.Runners[i]with
   |true=>exact Qb _
   |false=>
    have hw:=k.wlds _ ha.mem
    have hfl:=QjH (k.outs _ ha.mem)
    simp only[cond_false,Bool.not_false,Bool.true_and]
    refine Ev.bind (Qhd _ (by omega) (by omega)) ?_
    refine Ev.bind (Yu (f.Runners[i]).Worlds.flatten (outB f.Clocks) (Ctl.done (Ctl.done (Ctl.done 240))) (Ctl.cont ()) (by omega) (fun j x hb=>?_) ?_) ?_
    ·unfold F_in
     simp only[hb.lt,cond_true,hb.ix,Option.bind_some,hb.nx]
     refine Ev.bind (Qfp _ k.clk h x) ?_
     cases outB f.Clocks x<;>exact Qb _
    ·unfold F_in
     simp only[Qac,cond_false]
     exact Qb _
    ·cases(f.Runners[i]).Worlds.flatten.all (outB f.Clocks)with
     |false=>exact Qb _
     |true=>simp only[cond_true, <- e];exact Qb _
 ·unfold F_dw
  simp only[Qac,cond_false]
  exact Qb _
def wld(r:Runner)(w:Nat):List Outcome:=(r.Worlds[w]?).getD []
def openW(f:Field)(w:Nat):Bool:= !(f.Runners.any fun r=>(wld r w).isEmpty)
def possB(f:Field):Bool:=(List.range (f.Pairs.length+1)).any (openW f)
def WldOk(f:Field):Prop:=∀r∈f.Runners,r.Worlds.length=f.Pairs.length+1
theorem QcZ{f:Field}(h:WldOk f){r:Runner}(hr:r∈f.Runners){w:Nat}(hw:w<f.Pairs.length+1):idx r.Worlds (w:Int)=some (wld r w):=by
 have:w<r.Worlds.length:=by rw[h r hr];exact hw
 unfold wld
 rw[Qo (List.getElem?_eq_getElem this),List.getElem?_eq_getElem this];rfl
theorem Qf1(f:Field)(k:FewF f)(h:WldOk f){w:Nat}(hw:w<f.Pairs.length+1):Ev (fun n=>F_bi n f.Runners (w:Int)) (f.Runners.any fun r=>(wld r w).isEmpty):=by
 have hr:=k.runs
 unfold F_bi F_cr
 refine Ev.contains f.Runners (fun r=>(wld r w).isEmpty) (fun n x=>F_ao n x (w:Int)) (by omega) fun x hx=>?_
 unfold F_ao
 rw[QcZ h hx hw]
 exact Ev.bind (Qb _) ((Qb _).eq (Qb3 _))
theorem Qb5{α:Type}(l:List α)(p:α->Bool):(l.all fun x=> !p x)= !l.any p:=by rw[List.not_any_eq_all_not]
theorem QiL(f:Field)(k:FewF f)(h:WldOk f):Ev (fun n=>F_at n f) (possB f):=by
 have hp:=k.pairs
 unfold F_at
 have:Ev (fun n=>iter (F_ej n f) n 0) (bif (List.range (f.Pairs.length+1)).all (fun i=> !openW f i)then Ctl.cont ()else Ctl.done true):=by
  refine Yx (f.Pairs.length+1) _ _ _ (fun i hi=>?_) ?_
  ·unfold F_ej
   simp only[Q8 (show f.Pairs.length<=1048576 by omega),ltN hi,cond_true,Q8 (show i<=1048576 by omega)]
   refine Ev.bind (Qf1 f k h hi) ?_
   unfold openW
   cases f.Runners.any fun r=>(wld r i).isEmpty<;>exact Qb _
  ·unfold F_ej
   simp only[Q8 (show f.Pairs.length<=1048576 by omega),geN (Nat.le_refl _),cond_false]
   exact Qb _
 refine Ev.bind this ?_
 unfold possB
 rw[Qb5]
 cases(List.range (f.Pairs.length+1)).any (openW f)<;>exact Qb _
def fieldB(f:Field):Bool:=(clkB f.Clocks&& !(decide (16<(f.Pairs.length:Int))||(decide ((f.Runners.length:Int)<1)||decide (4000<(f.Runners.length:Int)))))&&(pairsB f&&(runsB f&&possB f))
theorem Qc5{f:Field}(h:runsB f=true):WldOk f:=by
 intro r hr
 obtain⟨i,hi,e⟩:=List.mem_iff_getElem.1 hr
 have:=QgZ.1 h i hi
 unfold runB at this
 rw[List.getElem?_eq_getElem hi,e]at this
 simp only[runBad,Bool.and_eq_true,Bool.not_eq_true',Bool.or_eq_false_iff]at this
 have q:(r.Worlds.length:Int)=((f.Pairs.length+1:Nat):Int):=by simpa[bne]using this.1.2.2.2
 omega
theorem QiM(f:Field)(k:FewF f):Ev (fun n=>F_l n f) (bif fieldB f then 0 else 240):=by
 unfold F_l fieldB
 refine Ev.bind (v:= !(clkB f.Clocks&& !(decide (16<(f.Pairs.length:Int))||(decide ((f.Runners.length:Int)<1)||decide (4000<(f.Runners.length:Int)))))) ?_ ?_
 ·refine Ev.bind (QiO _ k.clk) ?_
  cases clkB f.Clocks with
  |false=>exact Qb _
  |true=>
   simp only[Bool.true_and,Bool.not_not]
   exact Qbq (QD fun _=>QD fun _=>Qb _)
 ·cases h0:clkB f.Clocks&& !(decide (16<(f.Pairs.length:Int))||(decide ((f.Runners.length:Int)<1)||decide (4000<(f.Runners.length:Int))))with
  |false=>exact Qb _
  |true=>
   have hc:clkB f.Clocks=true:=by simp only[Bool.and_eq_true]at h0;exact h0.1
   simp only[Bool.not_true,cond_false,Bool.true_and]
   refine Ev.bind (Qg9 f (by have:=k.pairs;omega)) ?_
   cases pairsB f with
   |false=>exact Qb _
   |true=>
    refine Ev.bind (QjL f k hc) ?_
    cases h1:runsB f with
    |false=>exact Qb _
    |true=>
     refine Ev.bind (QiL f k (Qc5 h1)) ?_
     cases possB f<;>exact Qb _
structure FieldOk (f:Field):Prop where
 few:FewF f
 dims:Dims f.Clocks
 wlds:WldOk f
 outs:∀r∈f.Runners,∀w x,x∈wld r w->outB f.Clocks x=true
 ok:fieldB f=true
theorem Qjv{f:Field}(h:runsB f=true){r:Runner}(hr:r∈f.Runners):r.Worlds.flatten.all (outB f.Clocks)=true:=by
 obtain⟨i,hi,e⟩:=List.mem_iff_getElem.1 hr
 have:=QgZ.1 h i hi
 unfold runB at this
 rw[List.getElem?_eq_getElem hi,e]at this
 simp only[Bool.and_eq_true]at this
 exact this.2
theorem QdM{f:Field}(k:FewF f)(h:fieldB f=true):FieldOk f:=by
 have h':=h
 simp only[fieldB,Bool.and_eq_true]at h'
 obtain⟨⟨h1,_⟩,_,h2,_⟩:=h'
 refine⟨k,Qhk h1,Qc5 h2,fun r hr w x hx=>?_,h⟩
 refine List.all_eq_true.1 (Qjv h2 hr) x ?_
 unfold wld at hx
 cases q:r.Worlds[w]? with
 |none=>rw[q]at hx;cases hx
 |some l=>rw[q]at hx;exact List.mem_flatten.2 ⟨l,List.mem_of_getElem? q,hx⟩
theorem Qjs{f:Field}(o:FieldOk f){r:Runner}(hr:r∈f.Runners)(w:Nat):(wld r w).length<=4:=by
 unfold wld
 cases q:r.Worlds[w]? with
 |none=>simp
 |some l=>exact o.few.outs r hr l (List.mem_of_getElem? q)
def worldsN(f:Field):List Nat:=(List.range (f.Pairs.length+1)).filter (openW f)
theorem Qfq(f:Field)(k:FewF f)(h:WldOk f){w:Nat}(hw:w<f.Pairs.length+1):Ev (fun n=>F_cc n f.Runners (w:Int)) (f.Runners.any fun r=>(wld r w).isEmpty):=by
 have hr:=k.runs
 unfold F_cc F_cy
 refine Ev.contains f.Runners (fun r=>(wld r w).isEmpty) (fun n x=>F_ah n x (w:Int)) (by omega) fun x hx=>?_
 unfold F_ah
 rw[QcZ h hx hw]
 exact Ev.bind (Qb _) ((Qb _).eq (Qb3 _))
theorem Qcr(f:Field)(o:FieldOk f):Ev (fun n=>F_g n f) ((worldsN f).map (fun(w:Nat)=>(w:Int)),()):=by
 have hp:=o.few.pairs
 unfold F_g
 have loop:∀(m i:Nat),i+m=f.Pairs.length+1->EvL (fun n=>F_cu n f) (i:Int) (((List.range' i m).filter (openW f)).map (fun(w:Nat)=>(w:Int)),()):=by
  intro m
  induction m with
  |zero=>
   intro i hi
   refine EvL.done ?_
   unfold F_cu
   simp only[Q8 (show f.Pairs.length<=1048576 by omega),geN (show f.Pairs.length+1<=i by omega),cond_false]
   exact Qb _
  |succ m ih=>
   intro i hi
   have hlt:i<f.Pairs.length+1:=by omega
   have step:Ev (fun n=>F_cu n f (i:Int)) ((bif openW f i then[(i:Int)]else[]),Ctl.cont ((i+1:Nat):Int)):=by
    unfold F_cu
    simp only[Q8 (show f.Pairs.length<=1048576 by omega),ltN hlt,cond_true,Q8 (show i<=1048576 by omega)]
    refine Ev.bind (Qfq f o.few o.wlds hlt) ?_
    unfold openW
    cases f.Runners.any fun r=>(wld r i).isEmpty<;>exact Qb _
   refine(EvL.cont step (ih (i+1) (by omega))).eq ?_
   rw[List.range'_succ,List.filter_cons]
   cases openW f i<;>simp
 refine Ev.bind (loop (f.Pairs.length+1) 0 (by omega)).ev ((Qb _).eq ?_)
 unfold worldsN
 rw[List.range_eq_range']
 simp
theorem QbE{f:Field}{w:Nat}(h:w∈worldsN f):w<f.Pairs.length+1/\openW f w=true:=by
 unfold worldsN at h
 have:=List.mem_filter.1 h
 exact⟨by simpa using this.1,this.2⟩
theorem QcU{S T B:Type}{step:Nat->S->T->Option (Ctl S B)}(g:S->T->S):∀(l:List T) (s:S),(∀s,∀x∈l,Ev (fun n=>step n s x) (.cont (g s x)))->Ev (fun n=>QbI (step n) l s) (.cont (l.foldl g s))
 |[],s,_=>Qb _
 |x::l,s,h=>Ev.bind (h s x (List.mem_cons_self ..)) (QcU g l (g s x) fun s y hy=>h s y (List.mem_cons_of_mem _ hy))
def cmpL:List Int->List Int->Int
 |[],[]=>0
 |[],_::_=> -1
 |_::_,[]=>1
 |x::a,y::b=>bif cmpI x y != 0 then cmpI x y else cmpL a b
theorem QgA(a b:List Int)(ha:a.length<=1048576)(hb:b.length<=1048576):Ev (fun n=>F_i n a b) (cmpL a b):=by
 unfold F_i
 have loop2:∀(r:List Int) (i:Nat),a.drop i=r->i<=a.length->i<=b.length->∃res:Ctl Unit Int,EvI (fun n=>F_ar n a b) (i:Int) res/\(match res with|.cont _=>(bif decide ((a.length:Int)<(b.length:Int))then(-1:Int)else 0)|.done v=>v)=cmpL r (b.drop i):=by
  intro r
  induction r with
  |nil=>
   intro i hr hi hib
   refine⟨.cont (),EvI.done ?_,?_⟩
   ·unfold F_ar
    simp only[Qdr hr hi,cond_false]
    exact Qb _
   ·have h1:i=a.length:=by have:=List.drop_eq_nil_iff.1 hr;omega
    cases q:b.drop i with
    |nil=>
     have:=List.drop_eq_nil_iff.1 q
     simp only[QaM (show¬(a.length:Int)<(b.length:Int)by omega),cond_false,cmpL]
    |cons y s=>
     have:i<b.length:=by
      rcases Nat.lt_or_ge i b.length with z|z
      ·exact z
      ·rw[List.drop_of_length_le z]at q;cases q
     simp only[QbP (show(a.length:Int)<(b.length:Int)by omega),cond_true,cmpL]
  |cons x r ih=>
   intro i hr hi hib
   obtain⟨h1,h2⟩:=QbU (by omega) hr
   by_cases hb2:b.length<=i
   ·refine⟨.done 1,EvI.done ?_,?_⟩
    ·unfold F_ar
     simp only[h1.lt,cond_true,h1.ix,Option.bind_some,QbP (show(b.length:Int)<=(i:Int)by omega)]
     exact Qb _
    ·rw[List.drop_of_length_le hb2];rfl
   ·have hbi:i<b.length:=by omega
    rw[List.drop_eq_getElem_cons hbi]
    cases q:(cmpI x b[i] != 0)with
    |true=>
     refine⟨.done (cmpI x b[i]),EvI.done ?_,?_⟩
     ·unfold F_ar
      simp only[h1.lt,cond_true,h1.ix,Option.bind_some,QaM (show¬(b.length:Int)<=(i:Int)by omega),cond_false,Qo (List.getElem?_eq_getElem hbi)]
      refine Ev.bind (QeH _ _) ?_
      rw[q]
      exact Qb _
     ·simp only[cmpL,q,cond_true]
    |false=>
     obtain⟨res,g1,g2⟩:=ih (i+1) h2 (by have:=h1.lt';omega) (by omega)
     refine⟨res,EvI.cont ?_ g1,?_⟩
     ·unfold F_ar
      simp only[h1.lt,cond_true,h1.ix,Option.bind_some,QaM (show¬(b.length:Int)<=(i:Int)by omega),cond_false,Qo (List.getElem?_eq_getElem hbi),h1.nx]
      refine Ev.bind (QeH _ _) ?_
      rw[q]
      exact Qb _
     ·simp only[cmpL,q,cond_false]
      exact g2
 obtain⟨res,g1,g2⟩:=loop2 a 0 rfl (Nat.zero_le _) (Nat.zero_le _)
 rw[List.drop_zero]at g2
 refine Ev.bind g1.ev ?_
 rw[<- g2]
 cases res with
 |done v=>exact Qb _
 |cont _=>exact Qar (fun _=>Qb _) (fun _=>Qb _)
def sg(x:Outcome):Nat:=(x.Seg+1).toNat
theorem Qcx{c:Clocks}{x:Outcome}(hs:c.Segments.length<=511)(h:outB c x=true)(ho:x.Out=false):sg x<c.Segments.length+1/\IntKind.i64.wrap (x.Seg+1)=(sg x:Int):=by
 unfold outB at h
 rw[ho]at h
 simp only[cond_false,fineO,Bool.and_eq_true,decide_eq_true_eq]at h
 obtain⟨h1,h2,_⟩:=h
 unfold sg
 rw[Qci (by omega) (by omega)]
 omega
def gapD(best:Bool)(c:Clocks)(a b:Nat):Int:=bif best then farG c a b else IntKind.i64.wrap (0-farG c b a)
def keysF(f:Field)(k:Nat):List Int:=((f.Runners[k]?).map (·.Keys)).getD []
def diffD(best:Bool)(c:Clocks)(x y:Outcome):Int:=IntKind.i64.wrap (IntKind.i64.wrap ((bif best then y.Hi else y.Lo)+gapD best c (sg x) (sg y))-(bif best then x.Lo else x.Hi))
def aheadD(best:Bool)(f:Field)(i:Nat)(x:Outcome)(k:Nat)(y:Outcome):Bool:=
 bif y.Out then false else decide (diffD best f.Clocks x y<0)||((diffD best f.Clocks x y==0)&&decide (cmpL (keysF f k) (keysF f i)<0))
theorem QaK{f:Field}{k:Nat}(hk:k<f.Runners.length):idx f.Runners (k:Int)=some f.Runners[k]/\keysF f k=(f.Runners[k]).Keys:=by
 unfold keysF
 exact⟨Qo (List.getElem?_eq_getElem hk),by rw[List.getElem?_eq_getElem hk];rfl⟩
theorem Qal{f:Field}(o:FieldOk f){k:Nat}(hk:k<f.Runners.length):(f.Runners[k]).Keys.length<=1048576:=by have:=o.few.keys _ (List.getElem_mem hk);omega
theorem Qhf(f:Field)(o:FieldOk f){i k:Nat}(hi:i<f.Runners.length)(hk:k<f.Runners.length){x y:Outcome}(hx:outB f.Clocks x=true)(hxo:x.Out=false)(hy:outB f.Clocks y=true):
  Ev (fun n=>F_bv n f (i:Int) x (k:Int) y) (aheadD true f i x k y):=by
 unfold F_bv aheadD
 refine Qar (fun _=>Qb _) fun hyo=>?_
 have hs:=o.dims.segs
 obtain⟨x1,x2⟩:=Qcx hs hx hxo
 obtain⟨y1,y2⟩:=Qcx hs hy hyo
 obtain⟨g1,g2⟩:=o.dims.get x1 y1
 have e:∀n,F_ay n f.Clocks.Far (sg x:Int) (sg y:Int)=some (farG f.Clocks (sg x) (sg y)):=by
  intro n
  unfold F_ay
  rw[Qo g1,Option.bind_some,Qo g2];rfl
 unfold F_o F_w
 simp only[Option.bind_some,x2,y2,e]
 refine Ev.bind (QD fun _=>Ev.and fun _=>?_) (Qb _)
 obtain⟨k1,k2⟩:=QaK hk
 obtain⟨i1,i2⟩:=QaK hi
 simp only[k1,i1,Option.bind_some,k2,i2]
 exact Ev.bind (QgA _ _ (Qal o hk) (Qal o hi)) (Qb _)
theorem Qhe(f:Field)(o:FieldOk f){i k:Nat}(hi:i<f.Runners.length)(hk:k<f.Runners.length){x y:Outcome}(hx:outB f.Clocks x=true)(hxo:x.Out=false)(hy:outB f.Clocks y=true):
  Ev (fun n=>F_br n f (i:Int) x (k:Int) y) (aheadD false f i x k y):=by
 unfold F_br aheadD
 refine Qar (fun _=>Qb _) fun hyo=>?_
 have hs:=o.dims.segs
 obtain⟨x1,x2⟩:=Qcx hs hx hxo
 obtain⟨y1,y2⟩:=Qcx hs hy hyo
 obtain⟨g1,g2⟩:=o.dims.get y1 x1
 have e:∀n,F_au n f.Clocks.Far (sg x:Int) (sg y:Int)=some (IntKind.i64.wrap (0-farG f.Clocks (sg y) (sg x))):=by
  intro n
  unfold F_au
  rw[Qo g1,Option.bind_some,Qo g2];rfl
 unfold F_o F_w
 simp only[Option.bind_some,x2,y2,e]
 refine Ev.bind (QD fun _=>Ev.and fun _=>?_) (Qb _)
 obtain⟨k1,k2⟩:=QaK hk
 obtain⟨i1,i2⟩:=QaK hi
 simp only[k1,i1,Option.bind_some,k2,i2]
 exact Ev.bind (QgA _ _ (Qal o hk) (Qal o hi)) (Qb _)
def wldF(f:Field)(k w:Nat):List Outcome:=((f.Runners[k]?).map (wld · w)).getD []
theorem Qjt{f:Field}{k:Nat}(hk:k<f.Runners.length)(w:Nat):wldF f k w=wld f.Runners[k] w:=by
 unfold wldF
 rw[List.getElem?_eq_getElem hk];rfl
def chooseR(best:Bool)(f:Field)(w i:Nat)(x:Outcome)(k:Nat):Bool:=bif best then(wldF f k w).all (aheadD true f i x k)else(wldF f k w).any (aheadD false f i x k)
theorem Ev.find{α R:Type}{step:Nat->Int->Option (Ctl Int (Ctl Unit R))}(l:List α)(q:α->Bool)(out:Nat->R)(hl:l.length<=1048576)
  (hs:∀i x,At l i x->Ev (fun n=>step n (i:Int)) (bif q x then .done (.done (out i))else .cont ((i+1:Nat):Int)))(hd:Ev (fun n=>step n (l.length:Int)) (.done (.cont ()))):
  (l.any q=false/\Ev (fun n=>Go.Sw.iter (step n) n 0) (Ctl.cont ()))\/(l.any q=true/\ ∃i,Ev (fun n=>Go.Sw.iter (step n) n 0) (Ctl.done (out i))):=by
 let p:Nat->Bool:=fun i=>match l[i]? with|some x=> !q x|none=>true
 have hp:∀i x,At l i x->p i= !q x:=fun i x ha=>by show(match l[i]? with|some x=> !q x|none=>true)=_;rw[ha.get]
 rcases QaA p l.length with h|⟨j,h1,h2,h3⟩
 ·refine .inl ⟨?_,?_⟩
  ·rw[Bool.eq_false_iff]
   intro e
   obtain⟨x,hx,hq⟩:=List.any_eq_true.1 e
   obtain⟨i,hi,e2⟩:=List.mem_iff_getElem.1 hx
   have:=hp i _ (atN hl hi)
   rw[h i hi,e2,hq]at this
   cases this
  ·refine Ev.iter (fun i=>(i:Int)) l.length rfl (fun i hi=>(hs i _ (atN hl hi)).eq ?_) hd
   have:=hp i _ (atN hl hi)
   rw[h i hi]at this
   have e:q l[i]=false:=by cases z:q l[i]<;>rw[z]at this<;>simp at this⊢
   rw[e];rfl
 ·have e:q l[j]=true:=by
   have:=hp j _ (atN hl h1)
   rw[h2]at this
   cases z:q l[j]<;>rw[z]at this<;>simp at this⊢
  refine .inr ⟨List.any_eq_true.2 ⟨l[j],List.getElem_mem h1,e⟩,j,?_⟩
  refine Ev.iter (fun i=>(i:Int)) j rfl (fun i hi=>(hs i _ (atN hl (by omega))).eq ?_) ((hs j _ (atN hl h1)).eq (by rw[e];rfl))
  have:=hp i _ (atN hl (by omega))
  rw[h3 i hi]at this
  have e:q l[i]=false:=by cases z:q l[i]<;>rw[z]at this<;>simp at this⊢
  rw[e];rfl
theorem QaG{f:Field}(o:FieldOk f){k w:Nat}(hk:k<f.Runners.length)(hw:w<f.Pairs.length+1):idx f.Runners (k:Int)=some f.Runners[k]/\idx (f.Runners[k]).Worlds (w:Int)=some (wldF f k w)/\(wldF f k w).length<=4/\ ∀y∈wldF f k w,outB f.Clocks y=true:=by
 rw[Qjt hk]
 exact⟨Qo (List.getElem?_eq_getElem hk),QcZ o.wlds (List.getElem_mem hk) hw,Qjs o (List.getElem_mem hk) w,fun y hy=>o.outs _ (List.getElem_mem hk) w y hy⟩
theorem Qf3(f:Field)(o:FieldOk f){i k w:Nat}(hi:i<f.Runners.length)(hk:k<f.Runners.length)(hw:w<f.Pairs.length+1){x:Outcome}(hx:outB f.Clocks x=true)(hxo:x.Out=false):
  ∃a,Ev (fun n=>F_aj n f (w:Int) (i:Int) x (k:Int)) (a,chooseR true f w i x k):=by
 obtain⟨g1,g2,g3,g4⟩:=QaG o hk hw
 have e21:decide ((2:Int)<1)=false:=by decide
 have step:∀j y,At (wldF f k w) j y->Ev (fun n=>F_de n f (i:Int) x (k:Int) (wldF f k w) (j:Int)) (bif !aheadD true f i x k y then .done (.done ((j:Int),false))else .cont ((j+1:Nat):Int)):=by
  intro j y ha
  unfold F_de
  simp only[ha.lt,cond_true,ha.ix,Option.bind_some,ha.nx,e21]
  refine Ev.bind (Qhf f o hi hk hx hxo (g4 y ha.mem)) ?_
  cases aheadD true f i x k y<;>exact Qb _
 have fin:Ev (fun n=>F_de n f (i:Int) x (k:Int) (wldF f k w) ((wldF f k w).length:Int)) (.done (.cont ())):=by
  unfold F_de
  simp only[Qac,cond_false]
  exact Qb _
 have hc:chooseR true f w i x k= !((wldF f k w).any fun y=> !aheadD true f i x k y):=by
  unfold chooseR
  rw[cond_true, <- List.all_eq_not_any_not]
 unfold F_aj F_q
 simp only[Option.bind_some,g1,g2]
 rcases Ev.find (wldF f k w) (fun y=> !aheadD true f i x k y) (fun j=>((j:Int),false)) (by omega) step fin with⟨h1,h2⟩|⟨h1,j,h2⟩
 ·exact⟨0,Ev.bind h2 ((Qb _).eq (by rw[hc,h1];rfl))⟩
 ·exact⟨(j:Int),Ev.bind h2 ((Qb _).eq (by rw[hc,h1];rfl))⟩
theorem Qf2(f:Field)(o:FieldOk f){i k w:Nat}(hi:i<f.Runners.length)(hk:k<f.Runners.length)(hw:w<f.Pairs.length+1){x:Outcome}(hx:outB f.Clocks x=true)(hxo:x.Out=false):
  ∃a,Ev (fun n=>F_ag n f (w:Int) (i:Int) x (k:Int)) (a,chooseR false f w i x k):=by
 obtain⟨g1,g2,g3,g4⟩:=QaG o hk hw
 have e21:decide ((1:Int)<2)=true:=by decide
 have step:∀j y,At (wldF f k w) j y->Ev (fun n=>F_di n f (i:Int) x (k:Int) (wldF f k w) (j:Int)) (bif aheadD false f i x k y then .done (.done ((j:Int),true))else .cont ((j+1:Nat):Int)):=by
  intro j y ha
  unfold F_di
  simp only[ha.lt,cond_true,ha.ix,Option.bind_some,ha.nx,e21]
  refine Ev.bind (Qhe f o hi hk hx hxo (g4 y ha.mem)) ?_
  cases aheadD false f i x k y<;>exact Qb _
 have fin:Ev (fun n=>F_di n f (i:Int) x (k:Int) (wldF f k w) ((wldF f k w).length:Int)) (.done (.cont ())):=by
  unfold F_di
  simp only[Qac,cond_false]
  exact Qb _
 have hc:chooseR false f w i x k=(wldF f k w).any fun y=>aheadD false f i x k y:=rfl
 unfold F_ag F_p
 simp only[Option.bind_some,g1,g2]
 rcases Ev.find (wldF f k w) (fun y=>aheadD false f i x k y) (fun j=>((j:Int),true)) (by omega) step fin with⟨h1,h2⟩|⟨h1,j,h2⟩
 ·exact⟨0,Ev.bind h2 ((Qb _).eq (by rw[hc,h1];rfl))⟩
 ·exact⟨(j:Int),Ev.bind h2 ((Qb _).eq (by rw[hc,h1]))⟩
def cntR(p:Nat->Bool)(k:Nat):Nat:=((List.range k).filter p).length
theorem Qcs(p:Nat->Bool)(k:Nat):cntR p (k+1)=cntR p k+(bif p k then 1 else 0):=by
 unfold cntR
 rw[List.range_succ,List.filter_append,List.length_append]
 cases h:p k<;>simp[h]
theorem QeJ(p:Nat->Bool)(k:Nat):cntR p k<=k:=by
 unfold cntR
 exact Nat.le_trans (List.length_filter_le ..) (by simp)
def rivalP(best:Bool)(f:Field)(w i:Nat)(x:Outcome)(k:Nat):Bool:=bif Nat.beq k i then false else chooseR best f w i x k
def rankAt(best:Bool)(f:Field)(w i:Nat)(x:Outcome):Nat:=1+cntR (rivalP best f w i x) f.Runners.length
theorem Qeb{step:Nat->Int×Int->Option (Ctl (Int×Int) Int)}{ch:Nat->Int->Option (Int×Bool)}(f:Field)(best:Bool)(w i:Nat)(x:Outcome)(hr:f.Runners.length<=6)
  (hs:∀n s,step n s=(bif decide (s.2<(f.Runners.length:Int))then((bif (s.2==(i:Int))then some s.1 else(ch n s.2).bind fun r1187=>((bif r1187.2 then some (IntKind.i64.wrap (s.1+1))else some s.1):Option Int).bind fun b1189=>some b1189):Option Int).bind fun b1184=>some (.cont (b1184,IntKind.i64.wrap (s.2+1)))else some (.done s.1)))
  (hch:∀k,k<f.Runners.length->k≠i->∃a,Ev (fun n=>ch n (k:Int)) (a,chooseR best f w i x k)):
  Ev (fun n=>Go.Sw.iter (step n) n (1,0)) ((rankAt best f w i x:Nat):Int):=by
 refine Ev.iter (fun k=>(((1+cntR (rivalP best f w i x) k:Nat):Int),(k:Int))) f.Runners.length (by simp[cntR]) (fun k hk=>?_) ?_
 ·refine QdN ?_ fun n=>hs n _
  have hle:=QeJ (rivalP best f w i x) k
  simp only[ltN hk,cond_true,Q8 (show k<=1048576 by omega),Qcs]
  by_cases e:k=i
  ·have e1:((k:Int)==(i:Int))=true:=by rw[e];simp
   have e2:rivalP best f w i x k=false:=by unfold rivalP;rw[e,Nat.beq_refl];rfl
   simp only[e1,cond_true,Option.bind_some,e2,cond_false,Nat.add_zero]
   exact Qb _
  ·have e1:((k:Int)==(i:Int))=false:=beq_false_of_ne (by omega)
   have e2:rivalP best f w i x k=chooseR best f w i x k:=by
    unfold rivalP
    have:Nat.beq k i=false:=by rw[Bool.eq_false_iff];intro q;exact e (Nat.eq_of_beq_eq_true q)
    rw[this];rfl
   obtain⟨a,ha⟩:=hch k hk e
   simp only[e1,cond_false,e2]
   refine Ev.bind (Ev.bind ha (Ev.bind (v:=((1+(cntR (rivalP best f w i x) k+bif chooseR best f w i x k then 1 else 0):Nat):Int)) ?_ (Qb _))) (Qb _)
   cases chooseR best f w i x k with
   |false=>exact Qb _
   |true=>
    refine(Qb _).eq ?_
    rw[Q8 (show 1+cntR (rivalP best f w i x) k<=1048576 by omega)]
    rfl
 ·refine QdN ?_ fun n=>hs n _
  simp only[geN (Nat.le_refl _),cond_false]
  exact Qb _
theorem QiK(f:Field)(o:FieldOk f){i w:Nat}(hi:i<f.Runners.length)(hw:w<f.Pairs.length+1){x:Outcome}(hx:outB f.Clocks x=true)(hxo:x.Out=false):
  Ev (fun n=>Go.Sw.iter (F_fw n f (i:Int) (w:Int) x) n (1,0)) ((rankAt true f w i x:Nat):Int):=
 Qeb (step:=fun n=>F_fw n f (i:Int) (w:Int) x) (ch:=fun n k=>F_aj n f (w:Int) (i:Int) x k) f true w i x o.few.runs (fun n s=>by unfold F_fw;rfl) fun k hk _=>Qf3 f o hi hk hw hx hxo
theorem QiJ(f:Field)(o:FieldOk f){i w:Nat}(hi:i<f.Runners.length)(hw:w<f.Pairs.length+1){x:Outcome}(hx:outB f.Clocks x=true)(hxo:x.Out=false):
  Ev (fun n=>Go.Sw.iter (F_hx n f (i:Int) (w:Int) x) n (1,0)) ((rankAt false f w i x:Nat):Int):=
 Qeb (step:=fun n=>F_hx n f (i:Int) (w:Int) x) (ch:=fun n k=>F_ag n f (w:Int) (i:Int) x k) f false w i x o.few.runs (fun n s=>by unfold F_hx;rfl) fun k hk _=>Qf2 f o hi hk hw hx hxo
abbrev PlB:=ranks_place×Bool
def pref(best:Bool)(n m:Int):Bool:=bif best then decide (n<m)else decide (m<n)
def stepO(best:Bool)(f:Field)(i w:Nat)(acc:PlB)(j:Nat):PlB:=match(wldF f i w)[j]? with
 |none=>acc
 |some x=>bif x.Out then acc else
   bif !acc.2||pref best ((rankAt best f w i x:Nat):Int) acc.1.rank then({world:=(w:Int),outcome:=(j:Int),rank:=((rankAt best f w i x:Nat):Int):ranks_place},true)else acc
def driveW(best:Bool)(f:Field)(i:Nat)(acc:PlB)(w:Nat):PlB:=(List.range (wldF f i w).length).foldl (stepO best f i w) acc
def driveP(best:Bool)(f:Field)(i:Nat):PlB:=(worldsN f).foldl (driveW best f i) (z_ranks_place,false)
theorem YE{β:Type}(g:β->Nat->β)(b:β)(k:Nat):(List.range (k+1)).foldl g b=g ((List.range k).foldl g b) k:=by rw[List.range_succ,List.foldl_append];rfl
theorem Qhc(f:Field)(o:FieldOk f){i:Nat}(hi:i<f.Runners.length):Ev (fun n=>F_am n f (i:Int)) (driveP true f i):=by
 have hr:=o.few.runs
 unfold F_am F_e
 simp only[Option.bind_some]
 refine Ev.bind (Qcr f o) ?_
 have main:Ev (fun n=>QbI (F_ez n f (i:Int)) ((worldsN f).map fun(w:Nat)=>(w:Int)) (z_ranks_place,false)) (.cont (driveP true f i)):=by
  have:=QcU (step:=fun n=>F_ez n f (i:Int)) (fun s (x:Int)=>driveW true f i s x.toNat) ((worldsN f).map fun(w:Nat)=>(w:Int)) (z_ranks_place,false) (fun s x hx=>?_)
  ·refine this.eq ?_
   rw[List.foldl_map]
   simp only[Int.toNat_natCast]
   rfl
  ·obtain⟨w,hw,rfl⟩:=List.mem_map.1 hx
   obtain⟨hw1,_⟩:=QbE hw
   obtain⟨g1,g2,g3,g4⟩:=QaG o hi hw1
   unfold F_ez
   simp only[g1,g2,Option.bind_some]
   refine Ev.bind (v:=driveW true f i s w) ?_ (Qb _)
   refine Ev.iter (fun j=>(((List.range j).foldl (stepO true f i w) s).1,((List.range j).foldl (stepO true f i w) s).2,(j:Int))) (wldF f i w).length rfl (fun j hj=>?_) ?_
   ·have ha:=atN (by omega) hj
    unfold F_jh
    simp only[ha.lt,cond_true,ha.ix,Option.bind_some,ha.nx,YE]
    generalize(List.range j).foldl (stepO true f i w) s=acc
    have es:stepO true f i w acc j=bif ((wldF f i w)[j]).Out then acc else bif !acc.2||pref true ((rankAt true f w i (wldF f i w)[j]:Nat):Int) acc.1.rank then({world:=(w:Int),outcome:=(j:Int),rank:=((rankAt true f w i (wldF f i w)[j]:Nat):Int):ranks_place},true)else acc:=by
     unfold stepO;rw[ha.get]
    rw[es]
    refine Ev.bind (v:=bif ((wldF f i w)[j]).Out then acc else bif !acc.2||pref true ((rankAt true f w i (wldF f i w)[j]:Nat):Int) acc.1.rank then({world:=(w:Int),outcome:=(j:Int),rank:=((rankAt true f w i (wldF f i w)[j]:Nat):Int):ranks_place},true)else acc) ?_ (Qb _)
    refine Qar (fun _=>Qb _) fun hxo=>?_
    refine Ev.bind (QiK f o hi hw1 (g4 _ ha.mem) hxo) ?_
    refine Ev.bind (v:= !acc.2||pref true ((rankAt true f w i (wldF f i w)[j]:Nat):Int) acc.1.rank) (QD fun _=>by unfold F_q;exact Qb _) ?_
    cases !acc.2||pref true ((rankAt true f w i (wldF f i w)[j]:Nat):Int) acc.1.rank<;>exact Qb _
   ·unfold F_jh
    simp only[Qac,cond_false]
    exact Qb _
 refine Ev.bind main (Qb _)
theorem Qhb(f:Field)(o:FieldOk f){i:Nat}(hi:i<f.Runners.length):Ev (fun n=>F_af n f (i:Int)) (driveP false f i):=by
 have hr:=o.few.runs
 unfold F_af F_e
 simp only[Option.bind_some]
 refine Ev.bind (Qcr f o) ?_
 have main:Ev (fun n=>QbI (F_dx n f (i:Int)) ((worldsN f).map fun(w:Nat)=>(w:Int)) (z_ranks_place,false)) (.cont (driveP false f i)):=by
  have:=QcU (step:=fun n=>F_dx n f (i:Int)) (fun s (x:Int)=>driveW false f i s x.toNat) ((worldsN f).map fun(w:Nat)=>(w:Int)) (z_ranks_place,false) (fun s x hx=>?_)
  ·refine this.eq ?_
   rw[List.foldl_map]
   simp only[Int.toNat_natCast]
   rfl
  ·obtain⟨w,hw,rfl⟩:=List.mem_map.1 hx
   obtain⟨hw1,_⟩:=QbE hw
   obtain⟨g1,g2,g3,g4⟩:=QaG o hi hw1
   unfold F_dx
   simp only[g1,g2,Option.bind_some]
   refine Ev.bind (v:=driveW false f i s w) ?_ (Qb _)
   refine Ev.iter (fun j=>(((List.range j).foldl (stepO false f i w) s).1,((List.range j).foldl (stepO false f i w) s).2,(j:Int))) (wldF f i w).length rfl (fun j hj=>?_) ?_
   ·have ha:=atN (by omega) hj
    unfold F_jb
    simp only[ha.lt,cond_true,ha.ix,Option.bind_some,ha.nx,YE]
    generalize(List.range j).foldl (stepO false f i w) s=acc
    have es:stepO false f i w acc j=bif ((wldF f i w)[j]).Out then acc else bif !acc.2||pref false ((rankAt false f w i (wldF f i w)[j]:Nat):Int) acc.1.rank then({world:=(w:Int),outcome:=(j:Int),rank:=((rankAt false f w i (wldF f i w)[j]:Nat):Int):ranks_place},true)else acc:=by
     unfold stepO;rw[ha.get]
    rw[es]
    refine Ev.bind (v:=bif ((wldF f i w)[j]).Out then acc else bif !acc.2||pref false ((rankAt false f w i (wldF f i w)[j]:Nat):Int) acc.1.rank then({world:=(w:Int),outcome:=(j:Int),rank:=((rankAt false f w i (wldF f i w)[j]:Nat):Int):ranks_place},true)else acc) ?_ (Qb _)
    refine Qar (fun _=>Qb _) fun hxo=>?_
    refine Ev.bind (QiJ f o hi hw1 (g4 _ ha.mem) hxo) ?_
    refine Ev.bind (v:= !acc.2||pref false ((rankAt false f w i (wldF f i w)[j]:Nat):Int) acc.1.rank) (QD fun _=>by unfold F_p;exact Qb _) ?_
    cases !acc.2||pref false ((rankAt false f w i (wldF f i w)[j]:Nat):Int) acc.1.rank<;>exact Qb _
   ·unfold F_jb
    simp only[Qac,cond_false]
    exact Qb _
 refine Ev.bind main (Qb _)
def outW(f:Field)(i w:Nat):Bool:=(wldF f i w).any fun x=>x.Out
def bibF(f:Field)(i:Nat):Int:=((f.Runners[i]?).map (·.Bib)).getD 0
def rank0(f:Field)(i:Nat):Rank:={z_Rank with Bib:=bibF f i,Kind:=3,Out:=(worldsN f).any (outW f i)}
def ofP(f:Field)(i:Nat):Rank:=
 bif !(driveP true f i).2 then rank0 f i else
 bif ((driveP true f i).1.rank==(driveP false f i).1.rank)&& !(rank0 f i).Out then {rank0 f i with Kind:=1,Lo:=(driveP true f i).1.rank,Hi:=(driveP false f i).1.rank}else {rank0 f i with Kind:=2,Lo:=(driveP true f i).1.rank,Hi:=(driveP false f i).1.rank}
theorem ev_of(f:Field)(o:FieldOk f){i:Nat}(hi:i<f.Runners.length):Ev (fun n=>F_bc n f (i:Int)) (ofP f i):=by
 have hb:bibF f i=(f.Runners[i]).Bib:=by unfold bibF;rw[List.getElem?_eq_getElem hi];rfl
 unfold F_bc F_e F_ba F_bx
 simp only[Qo (List.getElem?_eq_getElem hi),Option.bind_some]
 refine Ev.bind (Qcr f o) ?_
 have main:Ev (fun n=>QbI (F_fd n f (i:Int)) ((worldsN f).map fun(w:Nat)=>(w:Int)) ({z_Rank with Bib:=(f.Runners[i]).Bib,Kind:=3:Rank})) (.cont (rank0 f i)):=by
  have:=QcU (step:=fun n=>F_fd n f (i:Int)) (fun s (x:Int)=>{s with Out:=s.Out||outW f i x.toNat:Rank}) ((worldsN f).map fun(w:Nat)=>(w:Int)) ({z_Rank with Bib:=(f.Runners[i]).Bib,Kind:=3:Rank}) (fun s x hx=>?_)
  ·refine this.eq ?_
   rw[List.foldl_map]
   simp only[Int.toNat_natCast]
   have key:∀(l:List Nat) (s:Rank),l.foldl (fun s w=>{s with Out:=s.Out||outW f i w:Rank}) s={s with Out:=s.Out||l.any (outW f i)}:=by
    intro l
    induction l with
    |nil=>intro s;simp
    |cons a l ih=>intro s;rw[List.foldl_cons,ih,List.any_cons,Bool.or_assoc]
   rw[key]
   unfold rank0
   rw[hb]
   simp[z_Rank]
  ·obtain⟨w,hw,rfl⟩:=List.mem_map.1 hx
   obtain⟨hw1,_⟩:=QbE hw
   obtain⟨g1,g2,g3,g4⟩:=QaG o hi hw1
   have hany:Ev (fun n=>F_ca n (wldF f i w)) (outW f i w):=by
    unfold F_ca F_cm outW
    refine Ev.contains (wldF f i w) (fun x=>x.Out) (fun n x=>(F_as n x).bind fun _=>some x.Out) (by omega) fun x hx=>?_
    unfold F_as
    exact Qb _
   unfold F_fd
   simp only[g1,g2,Option.bind_some,Int.toNat_natCast]
   refine Ev.bind (v:={s with Out:=s.Out||outW f i w:Rank}) ?_ (Qb _)
   cases hso:s.Out with
   |true=>exact(Qb _).eq (by simp)
   |false=>exact Ev.bind hany ((Qb _).eq (by simp))
 refine Ev.bind main ?_
 refine Ev.bind (Qhc f o hi) ?_
 unfold ofP
 refine Qar (fun _=>Qb _) fun _=>?_
 refine Ev.bind (Qhb f o hi) ?_
 refine Ev.bind (v:=((driveP true f i).1.rank==(driveP false f i).1.rank)&& !(rank0 f i).Out) (Ev.and fun _=>Qb _) ?_
 cases((driveP true f i).1.rank==(driveP false f i).1.rank)&& !(rank0 f i).Out<;>exact Qb _
def allP(f:Field):List Rank:=(List.range f.Runners.length).map (ofP f)
theorem QkO(f:Field)(k:FewF f):Ev (fun n=>F_n n f) (bif fieldB f then(allP f,0)else([],240)):=by
 have hr:=k.runs
 unfold F_n F_db
 refine Ev.bind (v:=bif fieldB f then 0 else 240) (Ev.bind (QiM f k) ?_) ?_
 ·cases fieldB f with
  |false=>exact Qb _
  |true=>
   refine Qbq (Ev.bind (v:=Ctl.cont ()) ?_ (Qb _))
   refine QhN 1 ?_
   rfl
 ·cases hf:fieldB f with
  |false=>exact Qb _
  |true=>
   have o:=QdM k hf
   refine Qbq (Ev.bind (v:=allP f) ?_ (Qb _))
   unfold allP
   refine Ev.iter (fun i=>((List.range i).map (ofP f),(i:Int))) f.Runners.length rfl (fun i hi=>?_) ?_
   ·unfold F_iv
    simp only[ltN hi,cond_true,Q8 (show i<=1048576 by omega)]
    refine Ev.bind (ev_of f o hi) ?_
    rw[QeM (by simp;omega)]
    refine(Qb _).eq ?_
    rw[List.range_succ,List.map_append]
    rfl
   ·unfold F_iv
    simp only[geN (Nat.le_refl _),cond_false]
    exact Qb _
theorem Qgi{α:Type}{step:Nat->List α×Int->Option (Ctl (List α×Int) (List α))}(l:List α)(q:α->Bool)(hl:l.length<=1048576)
  (hs:∀i x acc,At l i x->acc.length<=i->Ev (fun n=>step n (acc,(i:Int))) (.cont ((bif q x then acc++[x]else acc),((i+1:Nat):Int))))(hd:∀acc,Ev (fun n=>step n (acc,(l.length:Int))) (.done acc)):
  Ev (fun n=>Go.Sw.iter (step n) n ([],0)) (l.filter q):=by
 refine Ev.iter (fun i=>((l.take i).filter q,(i:Int))) l.length (by simp) (fun i hi=>?_) ((hd _).eq (by rw[List.take_length]))
 have ha:=atN hl hi
 refine(hs i _ _ ha (Nat.le_trans (List.length_filter_le ..) (by simp;omega))).eq ?_
 rw[ha.take,List.filter_append]
 cases h:q l[i]<;>simp[h]
theorem Qj5{α β:Type}{step:Nat->List β×Int->Option (Ctl (List β×Int) (List β))}(l:List α)(g:α->β)(hl:l.length<=1048576)
  (hs:∀i x acc,At l i x->acc.length<=i->Ev (fun n=>step n (acc,(i:Int))) (.cont (acc++[g x],((i+1:Nat):Int))))(hd:∀acc,Ev (fun n=>step n (acc,(l.length:Int))) (.done acc)):
  Ev (fun n=>Go.Sw.iter (step n) n ([],0)) (l.map g):=by
 refine Ev.iter (fun i=>((l.take i).map g,(i:Int))) l.length (by simp) (fun i hi=>?_) ((hd _).eq (by rw[List.take_length]))
 have ha:=atN hl hi
 refine(hs i _ _ ha (by simp;omega)).eq ?_
 rw[ha.take,List.map_append];rfl
def candB(k:Int)(r:Rank):Bool:=(r.Kind != 3)&&(decide (r.Lo<=k)&&decide (k<=r.Hi))
def candP(all:List Rank)(k:Int):List Rank:=all.filter (candB k)
theorem QiP(all:List Rank)(k:Int)(hl:all.length<=1048576):Ev (fun n=>F_aa n all k) (candP all k):=by
 unfold F_aa
 refine Ev.bind (Qgi (step:=fun n=>F_ft n all k) all (candB k) hl (fun i x acc ha hacc=>?_) fun acc=>?_) (Qb _)
 ·have hlt:=ha.lt'
  unfold F_ft
  simp only[ha.lt,cond_true,ha.ix,Option.bind_some,ha.nx,QeM (show acc.length<=140737488 by omega)]
  refine Ev.bind (v:=candB k x) (Ev.and fun _=>Ev.and fun _=>Qb _) ?_
  cases candB k x<;>exact Qb _
 ·unfold F_ft
  simp only[Qac,cond_false]
  exact Qb _
theorem Qdu(f:Field):(allP f).length=f.Runners.length:=by simp[allP]
theorem few25(f:Field)(w:Field.wf f):∃b,Ev (fun n=>F_bh n f) b/\(b=true->FewF f):=by
 obtain⟨⟨⟨s1,_⟩,⟨fa1,fa2⟩,_⟩,⟨p1,_⟩,⟨r1,r2⟩,_⟩:=w
 have keysOk:∀r∈f.Runners,r.Keys.length<=1048576/\r.Worlds.length<=1048576/\ ∀x∈r.Worlds,x.length<=1048576:=fun r hr=>⟨(r2 r hr).2.1.1,(r2 r hr).2.2.1.1,fun x hx=>((r2 r hr).2.2.1.2 x hx).1⟩
 have rB:Runner->Bool:=fun r=>true
 let okR:Runner->Bool:=fun r=> !(decide (5<(r.Keys.length:Int))||decide (4<(r.Worlds.length:Int)))&&r.Worlds.all fun x=> !decide (4<(x.length:Int))
 have g1:Ev (fun n=>iter (F_fz n f) n 0) (bif f.Runners.all okR then Ctl.cont ()else Ctl.done false):=by
  refine Yu f.Runners okR _ _ (by omega) (fun i x ha=>?_) ?_
  ·obtain⟨k1,k2,k3⟩:=keysOk x ha.mem
   unfold F_fz
   simp only[ha.lt,cond_true,ha.ix,Option.bind_some,ha.nx]
   refine Ev.bind (v:=decide (5<(x.Keys.length:Int))||decide (4<(x.Worlds.length:Int))) (QD fun _=>Qb _) ?_
   show Ev _ (bif !(decide (5<(x.Keys.length:Int))||decide (4<(x.Worlds.length:Int)))&&x.Worlds.all (fun x=> !decide (4<(x.length:Int)))then _ else _)
   cases decide (5<(x.Keys.length:Int))||decide (4<(x.Worlds.length:Int))with
   |true=>exact Qb _
   |false=>
    simp only[cond_false,Bool.not_false,Bool.true_and]
    refine Ev.bind (Yu x.Worlds (fun x=> !decide (4<(x.length:Int))) (Ctl.done (Ctl.done (Ctl.done false))) (Ctl.cont ()) (by omega) (fun j y hb=>?_) ?_) ?_
    ·unfold F_jd
     simp only[hb.lt,cond_true,hb.ix,Option.bind_some,hb.nx]
     cases decide (4<(y.length:Int))<;>exact Qb _
    ·unfold F_jd
     simp only[Qac,cond_false]
     exact Qb _
    ·cases x.Worlds.all fun x=> !decide (4<(x.length:Int))<;>exact Qb _
  ·unfold F_fz
   simp only[Qac,cond_false]
   exact Qb _
 have g2:Ev (fun n=>iter (F_hr n f) n 0) (bif f.Clocks.Far.all (fun x=> !decide (8<(x.length:Int)))then Ctl.cont ()else Ctl.done false):=by
  refine Yu f.Clocks.Far _ _ _ (by omega) (fun i x ha=>?_) ?_
  ·unfold F_hr
   simp only[ha.lt,cond_true,ha.ix,Option.bind_some,ha.nx]
   cases decide (8<(x.length:Int))<;>exact Qb _
  ·unfold F_hr
   simp only[Qac,cond_false]
   exact Qb _
 refine⟨f.Runners.all okR&&(f.Clocks.Far.all (fun x=> !decide (8<(x.length:Int)))&&(decide ((f.Runners.length:Int)<=6)&&(decide ((f.Pairs.length:Int)<=3)&&(decide ((f.Clocks.Segments.length:Int)<=4)&&decide ((f.Clocks.Far.length:Int)<=6))))),?_,fun h=>?_⟩
 ·unfold F_bh
  refine Ev.bind g1 ?_
  cases f.Runners.all okR with
  |false=>exact Qb _
  |true=>
   refine Ev.bind g2 ?_
   cases f.Clocks.Far.all (fun x=> !decide (8<(x.length:Int)))with
   |false=>exact Qb _
   |true=>exact Ev.bind (Ev.and fun _=>Ev.and fun _=>Ev.and fun _=>Qb _) (Qb _)
 ·simp only[Bool.and_eq_true,decide_eq_true_eq]at h
  obtain⟨h1,h2,h3,h4,h5,h6⟩:=h
  have hk:∀r∈f.Runners,r.Keys.length<=5/\r.Worlds.length<=4/\ ∀x∈r.Worlds,x.length<=4:=by
   intro r hr
   have:=List.all_eq_true.1 h1 r hr
   simp only[okR,Bool.and_eq_true,Bool.not_eq_true',Bool.or_eq_false_iff,decide_eq_false_iff_not]at this
   refine⟨by omega,by omega,fun x hx=>?_⟩
   have:=List.all_eq_true.1 this.2 x hx
   simp only[Bool.not_eq_true',decide_eq_false_iff_not]at this
   omega
  refine⟨by omega,by omega,by omega,by omega,fun r hr=>?_,fun r hr=>(hk r hr).1,fun r hr=>(hk r hr).2.1,fun r hr=>(hk r hr).2.2⟩
  have:=List.all_eq_true.1 h2 r hr
  simp only[Bool.not_eq_true',decide_eq_false_iff_not]at this
  omega
theorem FieldOk.runs{f:Field}(o:FieldOk f):runsB f=true:=by
 have:=o.ok
 simp only[fieldB,Bool.and_eq_true]at this
 exact this.2.2.1
theorem Qd1(best:Bool)(f:Field)(w i:Nat)(x:Outcome)(hi:i<f.Runners.length):1<=rankAt best f w i x/\rankAt best f w i x<=f.Runners.length:=by
 unfold rankAt
 have key:∀k,cntR (rivalP best f w i x) k+(if i<k then 1 else 0)<=k:=by
  intro k
  induction k with
  |zero=>simp[cntR]
  |succ k ih=>
   rw[Qcs]
   by_cases e:k=i
   ·subst e
    have:rivalP best f w k x k=false:=by unfold rivalP;rw[Nat.beq_refl];rfl
    rw[this]
    simp at ih⊢
    omega
   ·cases rivalP best f w i x k<;>simp<;>split at ih<;>split<;>omega
 have:=key f.Runners.length
 rw[if_pos hi]at this
 omega
theorem QjC(f:Field)(i:Nat):(ofP f i).Bib=bibF f i:=by
 unfold ofP
 cases !(driveP true f i).2 with
 |true=>rfl
 |false=>
  simp only[cond_false]
  cases((driveP true f i).1.rank==(driveP false f i).1.rank)&& !(rank0 f i).Out<;>rfl
theorem QgG{f:Field}{i:Nat}(hi:i<f.Runners.length):bibF f i=(f.Runners[i]).Bib:=by unfold bibF;rw[List.getElem?_eq_getElem hi];rfl
structure PrizesOk (c:Course):Prop where
 keys:(c.Prizes.map prizeKey).Nodup
 pos:∀p∈c.Prizes,1<=p.Amount
theorem Qkj{c:Course}(h:courseE c=0):PrizesOk c:=by
 have hn:numbersS c=true:=by
  unfold courseE at h
  cases h1:fitsS c with
  |false=>rw[h1]at h;simp at h
  |true=>
   cases h2:namesS c with
   |false=>rw[h1,h2]at h;simp at h
   |true=>
    cases h3:numbersS c with
    |true=>rfl
    |false=>rw[h1,h2,h3]at h;simp at h
 unfold numbersS at hn
 simp only[Bool.and_eq_true,decide_eq_true_eq,List.all_eq_true]at hn
 obtain⟨_,_,_,_,_,_,_,h1,h2,_⟩:=hn
 refine⟨h2,fun p hp=>?_⟩
 have:=h1 p hp
 simp only[prizeS,inR,Bool.and_eq_true,decide_eq_true_eq]at this
 omega
theorem leN{a b:Nat}(h:a<b+1):decide ((a:Int)<=(b:Int))=true:=decide_eq_true (by omega)
theorem QfU(b:Nat):decide (((b+1:Nat):Int)<=(b:Int))=false:=decide_eq_false (by omega)
theorem QiC(x:Int):Ev (fun n=>F_bn n x) (timeB x):=by
 unfold F_bn timeB inR
 exact Ev.bind (Ev.and fun _=>Qb _) (Qb _)
theorem QiH(x y:Segment):Ev (fun n=>F_bl n x y) (segLt x y):=by
 unfold F_bl segLt
 exact Ev.bind (QD fun _=>Ev.and fun _=>Qb _) (Qb _)
theorem QiD(c:Clocks)(hl:c.Segments.length<=1048576):Ev (fun n=>iter (F_gj n c) n 0) (bif segsB c then Ctl.cont ()else Ctl.done 160):=by
 unfold segsB
 refine Yx c.Segments.length _ _ _ (fun i hi=>?_) ?_
 ·have ha:=atN hl hi
  unfold F_gj
  simp only[ha.lt,cond_true,ha.ix,Option.bind_some,ha.nx,ha.get]
  refine Ev.bind (v:=segBad c i (c.Segments[i])) ?_ ?_
  ·unfold segBad
   refine QD fun _=>QD fun _=>QD fun _=>QD fun _=>Ev.bind (QiC _) (QD fun _=>?_)
   unfold prevSeg
   refine Ev.and fun h=>?_
   have h0:0<i:=by have:=of_decide_eq_true h;omega
   have h1:i-1<c.Segments.length:=by omega
   rw[Qdl hl h0 (by omega) (List.getElem?_eq_getElem h1),List.getElem?_eq_getElem h1]
   simp only[Option.bind_some]
   exact Ev.bind (QiH _ _) (Qb _)
  ·cases segBad c i (c.Segments[i])<;>exact Qb _
 ·unfold F_gj
  simp only[Qac,cond_false]
  exact Qb _
theorem Qhp(l:List Int)(q:Int->Bool):(List.range l.length).all (fun u=> !q ((l[u]?).getD 0))= !l.any q:=by
 rw[Bool.eq_iff_iff,QgZ,Bool.not_eq_true',Bool.eq_false_iff]
 constructor
 ·intro h e
  obtain⟨x,hx,hq⟩:=List.any_eq_true.1 e
  obtain⟨i,hi,e2⟩:=List.mem_iff_getElem.1 hx
  have:=h i hi
  rw[List.getElem?_eq_getElem hi,e2]at this
  simp[hq]at this
 ·intro h i hi
  rw[List.getElem?_eq_getElem hi]
  cases z:q ((some l[i]).getD 0)with
  |false=>rfl
  |true=>exact(h (List.any_eq_true.2 ⟨l[i],List.getElem_mem hi,z⟩)).elim
theorem QiF(c:Clocks)(h0:c.Segments.length<=1048576)(h2:∀r∈c.Far,r.length<=1048576)(hd:c.Far.length=c.Segments.length+1):
  Ev (fun n=>iter (F_ii n c) n 0) (bif rowsB c then Ctl.cont ()else Ctl.done 160):=by
 unfold rowsB
 rw[hd]
 refine Yx (c.Segments.length+1) _ _ _ (fun i hi=>?_) ?_
 ·have hif:i<c.Far.length:=by omega
  have hg:=List.getElem?_eq_getElem hif
  unfold F_ii
  simp only[leN hi,cond_true,Qo hg,hg,Option.bind_some,Q8 h0,Q8 (show i<=1048576 by omega)]
  have hrow:(c.Far[i]).length<=1048576:=h2 _ (List.getElem_mem hif)
  refine Ev.bind (v:=((c.Far[i]).length:Int) != ((c.Segments.length+1:Nat):Int)||((c.Far[i])[i]?.getD 1 != 0)) ?_ ?_
  ·refine QD fun h=>?_
   have hlen:(c.Far[i]).length=c.Segments.length+1:=by
    have:((c.Far[i]).length:Int)=((c.Segments.length+1:Nat):Int):=by simpa[bne]using h
    omega
   have hlt:i<(c.Far[i]).length:=by omega
   rw[Qo (List.getElem?_eq_getElem hlt),List.getElem?_eq_getElem hlt]
   exact Qb _
  ·unfold rowB
   cases hb:(((c.Far[i]).length:Int) != ((c.Segments.length+1:Nat):Int))with
   |true=>exact Qb _
   |false=>
    have hlen:(c.Far[i]).length=c.Segments.length+1:=by
     have:((c.Far[i]).length:Int)=((c.Segments.length+1:Nat):Int):=by simpa[bne]using hb
     omega
    simp only[Bool.false_or]
    cases(c.Far[i])[i]?.getD 1 != 0 with
    |true=>exact Qb _
    |false=>
     simp only[Bool.false_or,cond_false]
     rw[<- Qhp,hlen]
     refine Ev.bind (Yx (c.Segments.length+1) (fun u=> !farBad (((c.Far[i])[u]?).getD 0)) (Ctl.done (Ctl.done (Ctl.done 160))) (Ctl.cont ()) (fun u hu=>?_) ?_) ?_
     ·have hul:u<(c.Far[i]).length:=by omega
      have hgu:=List.getElem?_eq_getElem hul
      unfold F_jc
      simp only[leN hu,cond_true,Qo hg,Qo hgu,hgu,Option.bind_some,Option.getD_some,Q8 (show u<=1048576 by omega)]
      refine Ev.bind (v:=farBad (c.Far[i])[u]) (by unfold farBad;exact QD fun _=>Qb _) ?_
      cases farBad (c.Far[i])[u]<;>exact Qb _
     ·unfold F_jc
      simp only[QfU,cond_false]
      exact Qb _
     ·cases(List.range (c.Segments.length+1)).all fun u=> !farBad (((c.Far[i])[u]?).getD 0)<;>exact Qb _
 ·unfold F_ii
  simp only[QfU,cond_false]
  exact Qb _
theorem QjM(c:Clocks)(d:Dims c):Ev (fun n=>iter (F_gr n c) n 0) (bif triB c then Ctl.cont ()else Ctl.done 160):=by
 have hs:=d.segs
 unfold triB
 refine Yx (c.Segments.length+1) _ _ _ (fun i hi=>?_) ?_
 ·unfold F_gr
  have g:=(d.get hi hi).1
  simp only[leN hi,cond_true,Q8 (show i<=1048576 by omega)]
  refine Ev.bind (Yx (c.Segments.length+1) (fun j=>(List.range (c.Segments.length+1)).all fun k=> !decide (IntKind.i64.wrap (farG c i j+farG c j k)<farG c i k)) (Ctl.done (Ctl.done (Ctl.done 160))) (Ctl.cont ()) (fun j hj=>?_) ?_) ?_
  ·unfold F_iu
   have g1:=(d.get hi hj).2
   have g2:=(d.get hj hj).1
   simp only[leN hj,cond_true,Q8 (show j<=1048576 by omega)]
   refine Ev.bind (Yx (c.Segments.length+1) (fun k=> !decide (IntKind.i64.wrap (farG c i j+farG c j k)<farG c i k)) (Ctl.done (Ctl.done (Ctl.done (Ctl.done (Ctl.done 160))))) (Ctl.cont ()) (fun k hk=>?_) ?_) ?_
   ·unfold F_iz
    have g3:=(d.get hj hk).2
    have g4:=(d.get hi hk).2
    simp only[leN hk,cond_true,Qo g,Qo g1,Qo g2,Qo g3,Qo g4,Option.bind_some,Q8 (show k<=1048576 by omega)]
    cases decide (IntKind.i64.wrap (farG c i j+farG c j k)<farG c i k)<;>exact Qb _
   ·unfold F_iz
    simp only[QfU,cond_false]
    exact Qb _
   ·cases(List.range (c.Segments.length+1)).all fun k=> !decide (IntKind.i64.wrap (farG c i j+farG c j k)<farG c i k)<;>exact Qb _
  ·unfold F_iu
   simp only[QfU,cond_false]
   exact Qb _
  ·cases(List.range (c.Segments.length+1)).all fun j=>(List.range (c.Segments.length+1)).all fun k=> !decide (IntKind.i64.wrap (farG c i j+farG c j k)<farG c i k)<;>exact Qb _
 ·unfold F_gr
  simp only[QfU,cond_false]
  exact Qb _
theorem Qgz(c:Clocks)(w:ClkW c):Ev (fun n=>F_ab n c) (bif clkB c then 0 else 160):=by
 unfold F_ab clkB
 simp only[Q8 w.segs]
 refine Ev.bind (QD fun _=>Qb _) ?_
 cases h0:(decide (511<(c.Segments.length:Int))||((c.Far.length:Int) != ((c.Segments.length+1:Nat):Int)))with
 |true=>exact Qb _
 |false=>
  simp only[Bool.not_false,Bool.true_and,Bool.or_eq_false_iff,decide_eq_false_iff_not]at h0⊢
  have hd:c.Far.length=c.Segments.length+1:=by
   have:(c.Far.length:Int)=((c.Segments.length+1:Nat):Int):=by simpa[bne]using h0.2
   omega
  refine Qbq (Ev.bind (QiD c w.segs) ?_)
  cases segsB c with
  |false=>exact Qb _
  |true=>
   refine Ev.bind (QiF c w.segs w.row hd) ?_
   cases h3:rowsB c with
   |false=>exact Qb _
   |true=>
    refine Ev.bind (QjM c (QeI h0.1 hd h3)) ?_
    cases triB c<;>exact Qb _
theorem QjB(c:Clocks)(x:Outcome):outB c x= !(bif x.Out then((x.Seg != (-1))||((x.Lo != 0)||(x.Hi != 0)))else(decide (x.Seg<(-1))||(decide ((c.Segments.length:Int)<=x.Seg)||(decide (x.Lo<(-288230376151711744))||(decide (x.Hi<x.Lo)||decide (288230376151711744<x.Hi)))))):=by
 obtain⟨o,s,l,h⟩:=x
 unfold outB
 cases o with
 |true=>
  simp only[cond_true]
  rw[Bool.eq_iff_iff]
  simp[bne]
 |false=>
  simp only[cond_false,fineO]
  rw[Bool.eq_iff_iff]
  simp
theorem QeF(c:Clocks)(w:ClkW c)(h:clkB c=true)(x:Outcome):Ev (fun n=>F_ci n c x) (bif outB c x then 0 else 230):=by
 unfold F_ci
 refine Ev.bind (Qgz c w) ?_
 rw[h]
 refine Qbq (Ev.bind (v:= !outB c x) ?_ ?_)
 ·rw[QjB,Bool.not_not]
  cases ho:x.Out with
  |true=>
   simp only[cond_true,Bool.not_true,cond_false]
   exact QD fun _=>QD fun _=>(QD fun _=>Qb _).eq (Bool.or_false _)
  |false=>
   simp only[cond_false,Bool.not_false,cond_true]
   exact QD fun _=>QD fun _=>QD fun _=>QD fun _=>Qb _
 ·cases outB c x<;>exact Qb _
theorem Qd6{α:Type}{l:List α}{i:Nat}(hl:l.length<=1048576)(hi:i<l.length):idx l (IntKind.i64.wrap (((i+1:Nat):Int)-1))=some l[i]:=
 Qdl hl (Nat.succ_pos i) (by omega) (List.getElem?_eq_getElem hi)
theorem Qg6(f:Field)(hl:f.Pairs.length<=1048576):Ev (fun n=>iter (F_hz n f) n 0) (bif pairsB f then Ctl.cont ()else Ctl.done 240):=by
 unfold pairsB
 refine Yx f.Pairs.length _ _ _ (fun i hi=>?_) ?_
 ·have ha:=atN hl hi
  have e:lastP f (i+1)=f.Pairs[i]:=by show(f.Pairs[i]?).getD _=_;rw[List.getElem?_eq_getElem hi];rfl
  unfold F_hz
  simp only[ha.lt,cond_true,ha.ix,Option.bind_some,ha.nx,e]
  refine Ev.bind (v:=decide ((f.Pairs[i]).A<1)||(decide ((f.Pairs[i]).B<=(f.Pairs[i]).A)||decide (9999<(f.Pairs[i]).B))) (QD fun _=>QD fun _=>Qb _) ?_
  have hsplit:pairBad f.Pairs[i] (lastP f i)=((decide ((f.Pairs[i]).A<1)||(decide ((f.Pairs[i]).B<=(f.Pairs[i]).A)||decide (9999<(f.Pairs[i]).B)))||(decide ((f.Pairs[i]).A<(lastP f i).A)||(((f.Pairs[i]).A==(lastP f i).A)&&decide ((f.Pairs[i]).B<=(lastP f i).B)))):=by
   unfold pairBad;simp only[Bool.or_assoc]
  rw[hsplit]
  cases h1:(decide ((f.Pairs[i]).A<1)||(decide ((f.Pairs[i]).B<=(f.Pairs[i]).A)||decide (9999<(f.Pairs[i]).B)))with
  |true=>exact Qb _
  |false=>
   simp only[Bool.or_eq_false_iff,decide_eq_false_iff_not]at h1
   simp only[cond_false,Bool.false_or]
   refine Ev.bind (v:=decide ((f.Pairs[i]).A<(lastP f i).A)||(((f.Pairs[i]).A==(lastP f i).A)&&decide ((f.Pairs[i]).B<=(lastP f i).B))) ?_ ?_
   ·cases i with
    |zero=>
     have e0:(decide ((f.Pairs[0]).A<(lastP f 0).A)||(((f.Pairs[0]).A==(lastP f 0).A)&&decide ((f.Pairs[0]).B<=(lastP f 0).B)))=false:=by
      have h2:((f.Pairs[0]).A==(0:Int))=false:=beq_false_of_ne (by omega)
      show(decide ((f.Pairs[0]).A<0)||(((f.Pairs[0]).A==0)&&_))=false
      rw[h2,QaM (show¬(f.Pairs[0]).A<0 by omega)];rfl
     rw[e0]
     exact Qb _
    |succ j=>
     have ej:lastP f (j+1)=f.Pairs[j]:=by show(f.Pairs[j]?).getD _=_;rw[List.getElem?_eq_getElem (by omega)];rfl
     rw[ej,Qd6 hl (by omega)]
     simp only[QbP (show 0<((j+1:Nat):Int)by omega),cond_true,Option.bind_some]
     have hc:((f.Pairs[j+1]).A==(f.Pairs[j]).A)=((f.Pairs[j]).A==(f.Pairs[j+1]).A):=by rw[Bool.eq_iff_iff];simp only[beq_iff_eq];exact⟨Eq.symm,Eq.symm⟩
     rw[hc]
     exact QD fun _=>Ev.and fun _=>Qb _
   ·cases decide ((f.Pairs[i]).A<(lastP f i).A)||(((f.Pairs[i]).A==(lastP f i).A)&&decide ((f.Pairs[i]).B<=(lastP f i).B))<;>exact Qb _
 ·unfold F_hz
  simp only[Qac,cond_false]
  exact Qb _
theorem QjO(x:Int):Ev (fun n=>F_bk n x) (inR 1 9999 x):=by
 unfold F_bk F_dg inR
 exact Ev.bind (Ev.bind (Ev.and fun _=>Qb _) (Qb _)) (Qb _)
theorem QiE(f:Field)(k:FewF f)(h:clkB f.Clocks=true):Ev (fun n=>iter (F_em n f) n 0) (bif runsB f then Ctl.cont ()else Ctl.done 240):=by
 have hr:=k.runs
 have hp:=k.pairs
 unfold runsB
 refine QeX (fun i=>(i:Int)) f.Runners.length _ _ _ rfl (fun i hi hprev=>?_) (fun _=>?_)
 ·have ha:=atN (by omega) hi
  have h0:0<f.Runners.length:=by omega
  have hg0:idx f.Runners 0=some f.Runners[0]:=Qo (i:=0) (List.getElem?_eq_getElem h0)
  have hk0:keys0 f=(f.Runners[0]).Keys.length:=by unfold keys0;rw[List.getElem?_eq_getElem h0];rfl
  unfold F_em runB
  rw[ha.get]
  simp only[ha.lt,cond_true,ha.ix,Option.bind_some,ha.nx,hg0,Q8 (show f.Pairs.length<=1048576 by omega)]
  refine Ev.bind (v:=runBad f (lastB f i) f.Runners[i]) ?_ ?_
  ·have hlast:0<=lastB f i:=by
    cases i with
    |zero=>exact Int.le_refl _
    |succ j=>
     have ej:lastB f (j+1)=(f.Runners[j]).Bib:=by show((f.Runners[j]?).map (·.Bib)).getD 0=_;rw[List.getElem?_eq_getElem (by omega)];rfl
     have hj:∀m,m<=j->∀(hm:m<f.Runners.length),1<=(f.Runners[m]).Bib:=by
      intro m
      induction m with
      |zero=>
       intro _ hm
       have:=hprev 0 (by omega)
       unfold runB at this
       rw[List.getElem?_eq_getElem hm]at this
       simp only[runBad,Bool.and_eq_true,Bool.not_eq_true',Bool.or_eq_false_iff,decide_eq_false_iff_not]at this
       have z:lastB f 0=0:=rfl
       omega
      |succ m ih=>
       intro hmj hm
       have h1:=ih (by omega) (by omega)
       have:=hprev (m+1) (by omega)
       unfold runB at this
       rw[List.getElem?_eq_getElem hm]at this
       simp only[runBad,Bool.and_eq_true,Bool.not_eq_true',Bool.or_eq_false_iff,decide_eq_false_iff_not]at this
       have z:lastB f (m+1)=(f.Runners[m]).Bib:=by show((f.Runners[m]?).map (·.Bib)).getD 0=_;rw[List.getElem?_eq_getElem (by omega)];rfl
       omega
     have:=hj j (Nat.le_refl _) (by omega)
     omega
   have hbad:runBad f (lastB f i) f.Runners[i]=(!inR 1 9999 (f.Runners[i]).Bib||((decide (0<(i:Int))&&decide ((f.Runners[i]).Bib<=lastB f i))||((((f.Runners[i]).Keys.length:Int) != ((f.Runners[0]).Keys.length:Int))||(((f.Runners[i]).Worlds.length:Int) != ((f.Pairs.length+1:Nat):Int))))):=by
    unfold runBad inR
    rw[hk0]
    generalize((((f.Runners[i]).Keys.length:Int) != ((f.Runners[0]).Keys.length:Int))||(((f.Runners[i]).Worlds.length:Int) != ((f.Pairs.length+1:Nat):Int)))=z
    cases i with
    |zero=>
     have e0:lastB f 0=0:=rfl
     rw[e0]
     cases z with
     |true=>simp
     |false=>
      rw[Bool.eq_iff_iff]
      simp
      omega
    |succ j=>
     have h1:decide (0<((j+1:Nat):Int))=true:=QbP (by omega)
     rw[h1]
     cases z with
     |true=>simp
     |false=>
      rw[Bool.eq_iff_iff]
      simp
      omega
   rw[hbad]
   refine Ev.bind (QjO _) (QD fun _=>?_)
   cases i with
   |zero=>
    have e00:decide ((0:Int)<((0:Nat):Int))=false:=rfl
    simp only[e00,cond_false,Bool.false_and,Bool.false_or]
    exact QD fun _=>Qb _
   |succ j=>
    have ej:lastB f (j+1)=(f.Runners[j]).Bib:=by show((f.Runners[j]?).map (·.Bib)).getD 0=_;rw[List.getElem?_eq_getElem (by omega)];rfl
    rw[ej,Qd6 (by omega) (by omega)]
    simp only[QbP (show 0<((j+1:Nat):Int)by omega),cond_true,Option.bind_some,Bool.true_and]
    exact QD fun _=>QD fun _=>Qb _
  ·cases runBad f (lastB f i) f.Runners[i]with
   |true=>exact Qb _
   |false=>
    have hw:=k.wlds _ ha.mem
    have ho:=k.outs _ ha.mem
    simp only[cond_false,Bool.not_false,Bool.true_and]
    have hflat:(f.Runners[i]).Worlds.flatten.all (outB f.Clocks)=(f.Runners[i]).Worlds.all fun w=>w.all (outB f.Clocks):=by rw[List.all_flatten]
    rw[hflat]
    refine Ev.bind (Yu (f.Runners[i]).Worlds (fun w=>w.all (outB f.Clocks)) (Ctl.done (Ctl.done (Ctl.done 240))) (Ctl.cont ()) (by omega) (fun j x hb=>?_) ?_) ?_
    ·unfold F_jf
     simp only[hb.lt,cond_true,hb.nx]
     refine Ev.bind (Yu x (outB f.Clocks) (Ctl.done (Ctl.done (Ctl.done (Ctl.done (Ctl.done 240))))) (Ctl.cont ()) (by have:=ho x hb.mem;omega) (fun m y hy=>?_) ?_) ?_
     ·unfold F_ir
      simp only[hb.ix,Option.bind_some,hy.lt,cond_true,hy.ix,hy.nx]
      refine Ev.bind (QeF _ k.clk h y) ?_
      cases outB f.Clocks y<;>exact Qb _
     ·unfold F_ir
      simp only[hb.ix,Option.bind_some,Qac,cond_false]
      exact Qb _
     ·cases x.all (outB f.Clocks)<;>exact Qb _
    ·unfold F_jf
     simp only[Qac,cond_false]
     exact Qb _
    ·cases(f.Runners[i]).Worlds.all fun w=>w.all (outB f.Clocks)<;>exact Qb _
 ·unfold F_em
  simp only[Qac,cond_false]
  exact Qb _
theorem QeG(f:Field)(k:FewF f)(h:WldOk f){w:Nat}(hw:w<f.Pairs.length+1):Ev (fun n=>F_bj n f (w:Int)) (openW f w):=by
 have hr:=k.runs
 unfold F_bj
 refine Ev.bind (Yu f.Runners (fun r=> !(wld r w).isEmpty) (Ctl.done false) (Ctl.cont ()) (by omega) (fun i x ha=>?_) ?_) ?_
 ·unfold F_is
  have hx:=h x ha.mem
  simp only[ha.lt,cond_true,ha.ix,Option.bind_some,ha.nx,QaM (show¬(w:Int)<0 by omega),cond_false,QaM (show¬(x.Worlds.length:Int)<=(w:Int)by omega),QcZ h ha.mem hw,Qb3]
  cases(wld x w).isEmpty<;>exact Qb _
 ·unfold F_is
  simp only[Qac,cond_false]
  exact Qb _
 ·unfold openW
  rw[<- Qb5]
  cases f.Runners.all fun r=> !(wld r w).isEmpty<;>exact Qb _
theorem QiG(f:Field)(k:FewF f)(h:WldOk f):Ev (fun n=>F_cg n f) (possB f):=by
 have hp:=k.pairs
 unfold F_cg
 have:Ev (fun n=>iter (F_gh n f) n 0) (bif (List.range (f.Pairs.length+1)).all (fun i=> !openW f i)then Ctl.cont ()else Ctl.done true):=by
  refine Yx (f.Pairs.length+1) _ _ _ (fun i hi=>?_) ?_
  ·unfold F_gh
   simp only[leN hi,cond_true,Q8 (show i<=1048576 by omega)]
   refine Ev.bind (QeG f k h hi) ?_
   cases openW f i<;>exact Qb _
  ·unfold F_gh
   simp only[QfU,cond_false]
   exact Qb _
 refine Ev.bind this ?_
 unfold possB
 rw[Qb5]
 cases(List.range (f.Pairs.length+1)).any (openW f)<;>exact Qb _
theorem Qea(f:Field)(k:FewF f):Ev (fun n=>F_m n f) (bif fieldB f then 0 else 240):=by
 unfold F_m fieldB
 refine Ev.bind (v:= !(clkB f.Clocks&& !(decide (16<(f.Pairs.length:Int))||(decide ((f.Runners.length:Int)<1)||decide (4000<(f.Runners.length:Int)))))) ?_ ?_
 ·refine Ev.bind (Qgz _ k.clk) ?_
  cases clkB f.Clocks with
  |false=>exact Qb _
  |true=>
   simp only[Bool.true_and,Bool.not_not]
   exact Qbq (QD fun _=>QD fun _=>Qb _)
 ·cases h0:clkB f.Clocks&& !(decide (16<(f.Pairs.length:Int))||(decide ((f.Runners.length:Int)<1)||decide (4000<(f.Runners.length:Int))))with
  |false=>exact Qb _
  |true=>
   have hc:clkB f.Clocks=true:=by simp only[Bool.and_eq_true]at h0;exact h0.1
   simp only[Bool.not_true,cond_false,Bool.true_and]
   refine Ev.bind (Qg6 f (by have:=k.pairs;omega)) ?_
   cases pairsB f with
   |false=>exact Qb _
   |true=>
    refine Ev.bind (QiE f k hc) ?_
    cases h1:runsB f with
    |false=>exact Qb _
    |true=>
     refine Ev.bind (QiG f k (Qc5 h1)) ?_
     cases possB f<;>exact Qb _
theorem Qdp(f:Field)(k:FewF f)(h:WldOk f){w:Nat}(hw:w<f.Pairs.length+1):Ev (fun n=>F_bw n f (w:Int)) (openW f w):=by
 have hr:=k.runs
 unfold F_bw
 refine Ev.bind (v:=false) ?_ (Qbq (Ev.bind (Yu f.Runners (fun r=> !(wld r w).isEmpty) (Ctl.done false) (Ctl.cont ()) (by omega) (fun i x ha=>?_) ?_) ?_))
 ·rw[QaM (show¬(w:Int)<0 by omega),QaM (show¬(f.Pairs.length:Int)<(w:Int)by omega)]
  exact Qb _
 ·unfold F_jg
  have hx:=h x ha.mem
  simp only[ha.lt,cond_true,ha.ix,Option.bind_some,ha.nx,QaM (show¬(x.Worlds.length:Int)<=(w:Int)by omega),cond_false,QcZ h ha.mem hw,Qb3]
  cases(wld x w).isEmpty<;>exact Qb _
 ·unfold F_jg
  simp only[Qac,cond_false]
  exact Qb _
 ·unfold openW
  rw[<- Qb5]
  cases f.Runners.all fun r=> !(wld r w).isEmpty<;>exact Qb _
def lessL(a b:List Int):Bool:=decide (cmpL a b<0)
theorem QgB(a b:List Int)(ha:a.length<=1048576)(hb:b.length<=1048576):Ev (fun n=>F_r n a b) (lessL a b):=by
 unfold F_r
 have loop:∀(r:List Int) (i:Nat),a.drop i=r->i<=a.length->i<=b.length->∃res:Ctl Unit Bool,EvI (fun n=>F_aw n a b) (i:Int) res/\(match res with|.cont _=>decide ((a.length:Int)<(b.length:Int))|.done v=>v)=lessL r (b.drop i):=by
  intro r
  induction r with
  |nil=>
   intro i hr hi hib
   refine⟨.cont (),EvI.done ?_,?_⟩
   ·unfold F_aw
    simp only[Qdr hr hi,cond_false,Option.bind_some]
    exact Qb _
   ·have h1:i=a.length:=by have:=List.drop_eq_nil_iff.1 hr;omega
    unfold lessL
    cases q:b.drop i with
    |nil=>
     have:=List.drop_eq_nil_iff.1 q
     simp only[cmpL]
     exact QaM (by omega)
    |cons y s=>
     have:i<b.length:=by
      rcases Nat.lt_or_ge i b.length with z|z
      ·exact z
      ·rw[List.drop_of_length_le z]at q;cases q
     simp only[cmpL]
     exact QbP (by omega)
  |cons x r ih=>
   intro i hr hi hib
   obtain⟨h1,h2⟩:=QbU (by omega) hr
   have hia:=h1.lt'
   by_cases hb2:b.length<=i
   ·refine⟨.cont (),EvI.done ?_,?_⟩
    ·unfold F_aw
     simp only[h1.lt,cond_true,QaM (show¬(i:Int)<(b.length:Int)by omega),Option.bind_some,cond_false]
     exact Qb _
    ·rw[List.drop_of_length_le hb2]
     show decide _=decide ((1:Int)<0)
     rw[QaM (show¬(a.length:Int)<(b.length:Int)by omega)];rfl
   ·have hbi:i<b.length:=by omega
    rw[List.drop_eq_getElem_cons hbi]
    have hcmp:lessL (x::r) (b[i]::b.drop (i+1))=bif x != b[i]then decide (x<b[i])else lessL r (b.drop (i+1)):=by
     unfold lessL
     have e0:cmpL (x::r) (b[i]::b.drop (i+1))=bif cmpI x b[i] != 0 then cmpI x b[i]else cmpL r (b.drop (i+1)):=rfl
     rw[e0]
     by_cases e:x=b[i]
     ·have e1:cmpI x b[i]=0:=Qk2.2 e
      have e2:(x != b[i])=false:=by rw[e];exact bne_self_eq_false _
      rw[e1,e2];rfl
     ·have e1:(cmpI x b[i] != 0)=true:=bne_iff_ne.2 fun z=>e (Qk2.1 z)
      have e2:(x != b[i])=true:=bne_iff_ne.2 e
      rw[e1,e2]
      simp only[cond_true]
      rw[Bool.eq_iff_iff,decide_eq_true_eq,decide_eq_true_eq]
      exact QjU
    rw[hcmp]
    have hgb:=Qo (List.getElem?_eq_getElem hbi)
    cases q:(x != b[i])with
    |true=>
     refine⟨.done (decide (x<b[i])),EvI.done ?_,rfl⟩
     unfold F_aw
     simp only[h1.lt,cond_true,QbP (show(i:Int)<(b.length:Int)by omega),Option.bind_some,h1.ix,hgb,q]
     exact Qb _
    |false=>
     obtain⟨res,g1,g2⟩:=ih (i+1) h2 (by omega) (by omega)
     refine⟨res,EvI.cont ?_ g1,g2⟩
     unfold F_aw
     simp only[h1.lt,cond_true,QbP (show(i:Int)<(b.length:Int)by omega),Option.bind_some,h1.ix,hgb,q,cond_false,h1.nx]
     exact Qb _
 obtain⟨res,g1,g2⟩:=loop a 0 rfl (Nat.zero_le _) (Nat.zero_le _)
 rw[List.drop_zero]at g2
 refine Ev.bind g1.ev ?_
 rw[<- g2]
 cases res<;>exact Qb _
theorem QkL{c:Clocks}(d:Dims c)(h:rowsB c=true){i j:Nat}(hi:i<c.Segments.length+1)(hj:j<c.Segments.length+1): -2199023255552<=farG c i j/\farG c i j<=2199023255552:=by
 have hif:i<c.Far.length:=by rw[d.far];exact hi
 obtain⟨g1,g2⟩:=d.get hi hj
 have:=QgZ.1 h i hif
 rw[g1]at this
 simp only[rowB,Bool.not_eq_true',Bool.or_eq_false_iff]at this
 have hb:=this.2.2
 have hm:farG c i j∈(c.Far[i]?.getD []):=List.mem_of_getElem? g2
 have:farBad (farG c i j)=false:=by
  cases z:farBad (farG c i j)with
  |false=>rfl
  |true=>rw[List.any_eq_true.2 ⟨_,hm,z⟩]at hb;cases hb
 simp only[farBad,Bool.or_eq_false_iff,decide_eq_false_iff_not]at this
 omega
theorem FieldOk.rows{f:Field}(o:FieldOk f):rowsB f.Clocks=true:=by
 have:=o.ok
 simp only[fieldB,clkB,Bool.and_eq_true]at this
 exact this.1.1.2.2.1
theorem QjP(f:Field)(o:FieldOk f){i k:Nat}(hi:i<f.Runners.length)(hk:k<f.Runners.length){x y:Outcome}(hx:outB f.Clocks x=true)(hxo:x.Out=false)(hy:outB f.Clocks y=true):
  Ev (fun n=>F_az n f x (i:Int) y (k:Int)) (!aheadD true f i x k y):=by
 unfold F_az aheadD
 cases hyo:y.Out with
 |true=>exact Qb _
 |false=>
  simp only[cond_false]
  have hs:=o.dims.segs
  obtain⟨x1,x2⟩:=Qcx hs hx hxo
  obtain⟨y1,y2⟩:=Qcx hs hy hyo
  obtain⟨g1,g2⟩:=o.dims.get x1 y1
  simp only[x2,y2,Qo g1,Option.bind_some,Qo g2]
  obtain⟨k1,k2⟩:=QaK hk
  obtain⟨i1,i2⟩:=QaK hi
  simp only[k1,i1,Option.bind_some,k2,i2]
  have hd:IntKind.i64.wrap (IntKind.i64.wrap (y.Hi+farG f.Clocks (sg x) (sg y))-x.Lo)=diffD true f.Clocks x y:=rfl
  rw[hd]
  refine Ev.bind (v:=decide (0<diffD true f.Clocks x y)||((diffD true f.Clocks x y==0)&& !lessL (f.Runners[k]).Keys (f.Runners[i]).Keys)) (QD fun _=>Ev.and fun _=>Ev.bind (QgB _ _ (Qal o hk) (Qal o hi)) (Qb _)) ((Qb _).eq ?_)
  unfold lessL
  generalize diffD true f.Clocks x y=v
  generalize cmpL (f.Runners[k]).Keys (f.Runners[i]).Keys=u
  rw[Bool.eq_iff_iff]
  simp
  omega
theorem QiN(f:Field)(o:FieldOk f){i k:Nat}(hi:i<f.Runners.length)(hk:k<f.Runners.length){x y:Outcome}(hx:outB f.Clocks x=true)(hxo:x.Out=false)(hy:outB f.Clocks y=true):
  Ev (fun n=>F_bo n f x (i:Int) y (k:Int)) (aheadD false f i x k y):=by
 unfold F_bo aheadD
 refine Qar (fun _=>Qb _) fun hyo=>?_
 have hs:=o.dims.segs
 obtain⟨x1,x2⟩:=Qcx hs hx hxo
 obtain⟨y1,y2⟩:=Qcx hs hy hyo
 obtain⟨g1,g2⟩:=o.dims.get y1 x1
 simp only[x2,y2,Qo g1,Option.bind_some,Qo g2]
 obtain⟨k1,k2⟩:=QaK hk
 obtain⟨i1,i2⟩:=QaK hi
 simp only[k1,i1,Option.bind_some,k2,i2]
 have hb:=QkL o.dims o.rows y1 x1
 have hd:IntKind.i64.wrap (IntKind.i64.wrap (y.Lo-farG f.Clocks (sg y) (sg x))-x.Hi)=diffD false f.Clocks x y:=by
  unfold diffD gapD
  simp only[cond_false]
  rw[Qci (n:=0-farG f.Clocks (sg y) (sg x)) (by omega) (by omega)]
  rw[show y.Lo+(0-farG f.Clocks (sg y) (sg x))=y.Lo-farG f.Clocks (sg y) (sg x)by omega]
 rw[hd]
 exact Ev.bind (QD fun _=>Ev.and fun _=>Ev.bind (QgB _ _ (Qal o hk) (Qal o hi)) (Qb _)) (Qb _)
theorem Qf4(f:Field)(o:FieldOk f){i k w:Nat}(hi:i<f.Runners.length)(hk:k<f.Runners.length)(hw:w<f.Pairs.length+1){x:Outcome}(hx:outB f.Clocks x=true)(hxo:x.Out=false):
  Ev (fun n=>F_bz n f (w:Int) x (i:Int) (k:Int)) (!chooseR true f w i x k):=by
 obtain⟨g1,g2,g3,g4⟩:=QaG o hk hw
 unfold F_bz
 simp only[g1,g2,Option.bind_some]
 refine Ev.bind (Yu (wldF f k w) (aheadD true f i x k) (Ctl.done true) (Ctl.cont ()) (by omega) (fun j y ha=>?_) ?_) ?_
 ·unfold F_ja
  simp only[ha.lt,cond_true,ha.ix,Option.bind_some,ha.nx]
  refine Ev.bind (QjP f o hi hk hx hxo (g4 y ha.mem)) ?_
  cases aheadD true f i x k y<;>exact Qb _
 ·unfold F_ja
  simp only[Qac,cond_false]
  exact Qb _
 ·unfold chooseR
  simp only[cond_true]
  cases(wldF f k w).all (aheadD true f i x k)<;>exact Qb _
theorem Qfs(f:Field)(o:FieldOk f){i k w:Nat}(hi:i<f.Runners.length)(hk:k<f.Runners.length)(hw:w<f.Pairs.length+1){x:Outcome}(hx:outB f.Clocks x=true)(hxo:x.Out=false):
  Ev (fun n=>F_by n f (w:Int) x (i:Int) (k:Int)) (chooseR false f w i x k):=by
 obtain⟨g1,g2,g3,g4⟩:=QaG o hk hw
 unfold F_by
 simp only[g1,g2,Option.bind_some]
 refine Ev.bind (Yu (wldF f k w) (fun y=> !aheadD false f i x k y) (Ctl.done true) (Ctl.cont ()) (by omega) (fun j y ha=>?_) ?_) ?_
 ·unfold F_it
  simp only[ha.lt,cond_true,ha.ix,Option.bind_some,ha.nx]
  refine Ev.bind (QiN f o hi hk hx hxo (g4 y ha.mem)) ?_
  cases aheadD false f i x k y<;>exact Qb _
 ·unfold F_it
  simp only[Qac,cond_false]
  exact Qb _
 ·unfold chooseR
  simp only[cond_false]
  rw[Qb5]
  cases(wldF f k w).any (aheadD false f i x k)<;>exact Qb _
theorem Qfr(f:Field)(o:FieldOk f){i w:Nat}(hi:i<f.Runners.length)(hw:w<f.Pairs.length+1){x:Outcome}(hx:outB f.Clocks x=true)(hxo:x.Out=false):
  Ev (fun n=>F_cj n f (w:Int) x (i:Int)) (((rankAt true f w i x:Nat):Int),((rankAt false f w i x:Nat):Int)):=by
 have hr:=o.few.runs
 unfold F_cj
 refine Ev.bind (v:=(((rankAt true f w i x:Nat):Int),((rankAt false f w i x:Nat):Int))) ?_ (Qb _)
 refine Ev.iter (fun k=>(((1+cntR (rivalP true f w i x) k:Nat):Int),((1+cntR (rivalP false f w i x) k:Nat):Int),(k:Int))) f.Runners.length (by simp[cntR]) (fun k hk=>?_) ?_
 ·have h1:=QeJ (rivalP true f w i x) k
  have h2:=QeJ (rivalP false f w i x) k
  unfold F_iw
  simp only[ltN hk,cond_true,Q8 (show k<=1048576 by omega),Qcs]
  by_cases e:k=i
  ·have e1:((k:Int)==(i:Int))=true:=by rw[e];simp
   have e2:∀b,rivalP b f w i x k=false:=by intro b;unfold rivalP;rw[e,Nat.beq_refl];rfl
   simp only[e1,cond_true,Option.bind_some,e2,cond_false,Nat.add_zero]
   exact Qb _
  ·have e1:((k:Int)==(i:Int))=false:=beq_false_of_ne (by omega)
   have e2:∀b,rivalP b f w i x k=chooseR b f w i x k:=by
    intro b
    unfold rivalP
    have:Nat.beq k i=false:=by rw[Bool.eq_false_iff];intro q;exact e (Nat.eq_of_beq_eq_true q)
    rw[this];rfl
   simp only[e1,cond_false,e2]
   refine Ev.bind (v:=(((1+(cntR (rivalP true f w i x) k+bif chooseR true f w i x k then 1 else 0):Nat):Int),((1+(cntR (rivalP false f w i x) k+bif chooseR false f w i x k then 1 else 0):Nat):Int))) ?_ (Qb _)
   refine Ev.bind (Qf4 f o hi hk hw hx hxo) ?_
   rw[Bool.not_not]
   refine Ev.bind (v:=((1+(cntR (rivalP true f w i x) k+bif chooseR true f w i x k then 1 else 0):Nat):Int)) ?_ (Ev.bind (Qfs f o hi hk hw hx hxo) (Ev.bind (v:=((1+(cntR (rivalP false f w i x) k+bif chooseR false f w i x k then 1 else 0):Nat):Int)) ?_ (Qb _)))
   ·cases chooseR true f w i x k with
    |false=>exact Qb _
    |true=>exact(Qb _).eq (by rw[Q8 (show 1+cntR (rivalP true f w i x) k<=1048576 by omega)];rfl)
   ·cases chooseR false f w i x k with
    |false=>exact Qb _
    |true=>exact(Qb _).eq (by rw[Q8 (show 1+cntR (rivalP false f w i x) k<=1048576 by omega)];rfl)
 ·unfold F_iw
  simp only[geN (Nat.le_refl _),cond_false]
  exact Qb _
def refS(f:Field)(i w:Nat)(r:Rank)(j:Nat):Rank:=match(wldF f i w)[j]? with
 |none=>r
 |some x=>bif x.Out then {r with Out:=true}else
   {r with Lo:=(bif (r.Lo==0)||decide (((rankAt true f w i x:Nat):Int)<r.Lo)then((rankAt true f w i x:Nat):Int)else r.Lo),Hi:=(if r.Hi<((rankAt false f w i x:Nat):Int)then((rankAt false f w i x:Nat):Int)else r.Hi)}
def refW(f:Field)(i:Nat)(r:Rank)(w:Nat):Rank:=bif openW f w then(List.range (wldF f i w).length).foldl (refS f i w) r else r
def refR(f:Field)(i:Nat):Rank:=(List.range (f.Pairs.length+1)).foldl (refW f i) {z_Rank with Bib:=bibF f i}
def refK(r:Rank):Rank:=bif r.Lo==0 then {r with Kind:=3}else bif (r.Lo==r.Hi)&& !r.Out then {r with Kind:=1}else {r with Kind:=2}
theorem Qg7(f:Field)(o:FieldOk f){i:Nat}(hi:i<f.Runners.length):Ev (fun n=>F_an n f (i:Int)) (refK (refR f i),0):=by
 have hr:=o.few.runs
 have hp:=o.few.pairs
 have hb:bibF f i=(f.Runners[i]).Bib:=QgG hi
 unfold F_an F_ct
 refine Ev.bind (v:=0) (Ev.bind (Qea f o.few) ?_) ?_
 ·rw[o.ok]
  refine Qbq ?_
  rw[QaM (show¬(i:Int)<0 by omega),QaM (show¬(f.Runners.length:Int)<=(i:Int)by omega)]
  exact Qb _
 ·refine Qbq ?_
  rw[Qo (List.getElem?_eq_getElem hi)]
  simp only[Option.bind_some]
  refine Ev.bind (v:=refR f i) ?_ ?_
  ·refine Ev.iter (fun w=>((List.range w).foldl (refW f i) {z_Rank with Bib:=bibF f i},(w:Int))) (f.Pairs.length+1) (by rw[hb];rfl) (fun w hw=>?_) ?_
   ·obtain⟨g1,g2,g3,g4⟩:=QaG o hi hw
    unfold F_ip
    simp only[leN hw,cond_true,g1,g2,Option.bind_some,Q8 (show w<=1048576 by omega),YE]
    generalize(List.range w).foldl (refW f i) {z_Rank with Bib:=bibF f i}=r0
    refine Ev.bind (v:=refW f i r0 w) ?_ (Qb _)
    unfold refW
    cases ho:openW f w with
    |false=>
     refine(Ev.iter (fun _=>(r0,0)) 0 rfl (fun j hj=>absurd hj (Nat.not_lt_zero _)) ?_)
     unfold F_fv
     refine Ev.bind (v:=false) ?_ (Qb _)
     refine(Ev.and fun _=>Ev.bind (Qdp f o.few o.wlds hw) (Qb _)).eq ?_
     rw[ho,Bool.and_false]
    |true=>
     refine Ev.iter (fun j=>((List.range j).foldl (refS f i w) r0,(j:Int))) (wldF f i w).length rfl (fun j hj=>?_) ?_
     ·have ha:=atN (by omega) hj
      unfold F_fv
      simp only[ha.lt,cond_true,YE]
      refine Ev.bind (v:=true) (Ev.bind ((Qdp f o.few o.wlds hw).eq ho) (Qb _)) ?_
      simp only[cond_true,ha.ix,Option.bind_some,ha.nx]
      generalize(List.range j).foldl (refS f i w) r0=r1
      refine Ev.bind (v:=refS f i w r1 j) ?_ (Qb _)
      unfold refS
      rw[ha.get]
      simp only
      refine Qar (fun _=>Qb _) fun hxo=>?_
      refine Ev.bind (Qfr f o hi hw (g4 _ ha.mem) hxo) ?_
      refine Ev.bind (v:=(r1.Lo==0)||decide (((rankAt true f w i (wldF f i w)[j]:Nat):Int)<r1.Lo)) (QD fun _=>Qb _) ?_
      cases(r1.Lo==0)||decide (((rankAt true f w i (wldF f i w)[j]:Nat):Int)<r1.Lo)<;>exact Qb _
     ·unfold F_fv
      simp only[Qac,cond_false,Option.bind_some]
      exact Qb _
   ·unfold F_ip
    simp only[QfU,cond_false]
    exact Qb _
  ·refine Ev.bind (v:=refK (refR f i)) ?_ (Qb _)
   unfold refK
   refine Qar (fun _=>Qb _) fun _=>?_
   refine Ev.bind (v:=((refR f i).Lo==(refR f i).Hi)&& !(refR f i).Out) (Ev.and fun _=>Qb _) ?_
   cases((refR f i).Lo==(refR f i).Hi)&& !(refR f i).Out<;>exact Qb _
structure SameR (f:Field) (i:Nat) (r:Rank) (a b:PlB) (out:Bool):Prop where
 bib:r.Bib=bibF f i
 kind:r.Kind=0
 out:r.Out=out
 some:a.2=b.2
 no:a.2=false->r.Lo=0/\r.Hi=0
 yes:a.2=true->r.Lo=a.1.rank/\r.Hi=b.1.rank/\1<=a.1.rank/\1<=b.1.rank
theorem QgV{f:Field}{i:Nat}(hi:i<f.Runners.length)(w:Nat){r:Rank}{a b:PlB}{out:Bool}(h:SameR f i r a b out)(j:Nat):
  SameR f i (refS f i w r j) (stepO true f i w a j) (stepO false f i w b j) (out||(match(wldF f i w)[j]? with|some x=>x.Out|none=>false)):=by
 unfold refS stepO
 cases(wldF f i w)[j]? with
 |none=>simp only[Bool.or_false];exact h
 |some x=>
  simp only
  cases hx:x.Out with
  |true=>simp only[cond_true,Bool.or_true];exact⟨h.bib,h.kind,rfl,h.some,h.no,h.yes⟩
  |false=>
   simp only[cond_false,Bool.or_false]
   have r1:=(Qd1 true f w i x hi).1
   have r2:=(Qd1 false f w i x hi).1
   cases ha:a.2 with
   |false=>
    have hb:b.2=false:=by rw[<- h.some];exact ha
    obtain⟨l0,h0⟩:=h.no ha
    simp only[hb,Bool.not_false,Bool.true_or,cond_true,l0,h0,beq_self_eq_true]
    refine⟨h.bib,h.kind,h.out,rfl,(fun z=>by cases z),fun _=>⟨rfl,?_,by simp only;omega,by simp only;omega⟩⟩
    simp only
    rw[if_pos (by omega)]
   |true=>
    have hb:b.2=true:=by rw[<- h.some];exact ha
    obtain⟨l0,h0,p1,p2⟩:=h.yes ha
    have e0:(a.1.rank==0)=false:=beq_false_of_ne (by omega)
    simp only[hb,Bool.not_true,Bool.false_or,e0,l0,h0,pref,cond_true,cond_false]
    by_cases q1:((rankAt true f w i x:Nat):Int)<a.1.rank
    ·by_cases q2:b.1.rank<((rankAt false f w i x:Nat):Int)
     ·simp only[QbP q1,QbP q2,cond_true,if_pos q2]
      exact⟨h.bib,h.kind,h.out,rfl,(fun z=>by cases z),fun _=>⟨rfl,rfl,by simp only;omega,by simp only;omega⟩⟩
     ·simp only[QbP q1,QaM q2,cond_true,cond_false,if_neg q2]
      exact⟨h.bib,h.kind,h.out,hb.symm,(fun z=>by cases z),fun _=>⟨rfl,rfl,by simp only;omega,p2⟩⟩
    ·by_cases q2:b.1.rank<((rankAt false f w i x:Nat):Int)
     ·simp only[QaM q1,QbP q2,cond_true,cond_false,if_pos q2]
      exact⟨h.bib,h.kind,h.out,ha,(fun z=>by rw[ha]at z;cases z),fun _=>⟨rfl,rfl,p1,by simp only;omega⟩⟩
     ·simp only[QaM q1,QaM q2,cond_false,if_neg q2]
      exact⟨h.bib,h.kind,h.out,h.some,(fun z=>by rw[ha]at z;cases z),fun _=>⟨rfl,rfl,p1,p2⟩⟩
def ogO(l:List Outcome)(j:Nat):Bool:=match l[j]? with|some x=>x.Out|none=>false
theorem Qho(l:List Outcome):(List.range l.length).any (ogO l)=l.any fun x=>x.Out:=by
 rw[Bool.eq_iff_iff,List.any_eq_true,List.any_eq_true]
 constructor
 ·rintro⟨j,hj,h⟩
  have hlt:j<l.length:=by simpa using hj
  unfold ogO at h
  rw[List.getElem?_eq_getElem hlt]at h
  exact⟨l[j],List.getElem_mem hlt,h⟩
 ·rintro⟨x,hx,h⟩
  obtain⟨j,hj,e⟩:=List.mem_iff_getElem.1 hx
  refine⟨j,by simpa using hj,?_⟩
  unfold ogO
  rw[List.getElem?_eq_getElem hj,e];exact h
theorem QdZ{f:Field}{i:Nat}(hi:i<f.Runners.length)(w:Nat):∀(L:List Nat) (r:Rank) (a b:PlB) (out:Bool),SameR f i r a b out->
  SameR f i (L.foldl (refS f i w) r) (L.foldl (stepO true f i w) a) (L.foldl (stepO false f i w) b) (out||L.any (ogO (wldF f i w)))
 |[],r,a,b,out,h=>by simpa using h
 |j::L,r,a,b,out,h=>by
  have h1:SameR f i (refS f i w r j) (stepO true f i w a j) (stepO false f i w b j) (out||ogO (wldF f i w) j):=QgV hi w h j
  have:=QdZ hi w L _ _ _ _ h1
  rw[List.any_cons, <- Bool.or_assoc]
  exact this
theorem Qbi{f:Field}{i:Nat}(hi:i<f.Runners.length):∀(L:List Nat) (r:Rank) (a b:PlB) (out:Bool),SameR f i r a b out->
  SameR f i (L.foldl (refW f i) r) ((L.filter (openW f)).foldl (driveW true f i) a) ((L.filter (openW f)).foldl (driveW false f i) b) (out||(L.filter (openW f)).any (outW f i))
 |[],r,a,b,out,h=>by simpa using h
 |w::L,r,a,b,out,h=>by
  rw[List.foldl_cons,List.filter_cons]
  cases ho:openW f w with
  |false=>
   have e:refW f i r w=r:=by unfold refW;rw[ho];rfl
   rw[e]
   exact Qbi hi L r a b out h
  |true=>
   have e:refW f i r w=(List.range (wldF f i w).length).foldl (refS f i w) r:=by unfold refW;rw[ho];rfl
   have h2:=QdZ hi w (List.range (wldF f i w).length) r a b out h
   rw[Qho]at h2
   rw[e,if_pos rfl,List.foldl_cons,List.foldl_cons,List.any_cons, <- Bool.or_assoc]
   exact Qbi hi L _ _ _ _ h2
theorem Qko(f:Field){i:Nat}(hi:i<f.Runners.length):refK (refR f i)=ofP f i:=by
 have h0:SameR f i {z_Rank with Bib:=bibF f i} (z_ranks_place,false) (z_ranks_place,false) false:=⟨rfl,rfl,rfl,rfl,fun _=>⟨rfl,rfl⟩,fun z=>by cases z⟩
 have h:SameR f i (refR f i) (driveP true f i) (driveP false f i) (false||(worldsN f).any (outW f i)):=Qbi hi (List.range (f.Pairs.length+1)) _ _ _ _ h0
 rw[Bool.false_or]at h
 rcases hr:refR f i with⟨b,k,lo,hiR,out⟩
 rw[hr]at h
 have e1:b=bibF f i:=h.bib
 have e2:out=(worldsN f).any (outW f i):=h.out
 unfold refK ofP
 cases ha:(driveP true f i).2 with
 |false=>
  obtain⟨z1,z2⟩:=h.no ha
  have z1':lo=0:=z1
  have z2':hiR=0:=z2
  subst e1 e2 z1' z2'
  rfl
 |true=>
  obtain⟨z1,z2,z3,z4⟩:=h.yes ha
  have z1':lo=(driveP true f i).1.rank:=z1
  have z2':hiR=(driveP false f i).1.rank:=z2
  have e0:(lo==0)=false:=beq_false_of_ne (by omega)
  simp only[e0,cond_false,Bool.not_true]
  have eo:(rank0 f i).Out=out:=e2.symm
  rw[eo, <- z1', <- z2',e1]
  cases(lo==hiR)&& !out with
  |true=>simp only[cond_true,rank0, <- e2]
  |false=>simp only[cond_false,rank0, <- e2]
theorem QiI(f:Field)(o:FieldOk f){i:Nat}(hi:i<f.Runners.length):Ev (fun n=>F_an n f (i:Int)) (ofP f i,0):=(Qg7 f o hi).eq (by rw[Qko f hi])
theorem QkN(f:Field)(o:FieldOk f){i:Nat}(hi:i<f.Runners.length)(k:Int):Ev (fun n=>F_bq n f (i:Int) k) (candB k (ofP f i)):=by
 unfold F_bq candB
 exact Ev.bind (QiI f o hi) (Ev.bind (Ev.and fun _=>Ev.and fun _=>Qb _) (Qb _))
def candI(f:Field)(k:Int)(m:Nat):List Int:=(((List.range m).map (ofP f)).filter (candB k)).map (·.Bib)
theorem Qf6(f:Field)(k:Int)(m:Nat):candI f k (m+1)=candI f k m++(bif candB k (ofP f m)then[(ofP f m).Bib]else[]):=by
 unfold candI
 rw[List.range_succ,List.map_append,List.filter_append,List.map_append]
 cases h:candB k (ofP f m)<;>simp[h]
theorem Qhm(f:Field)(k:Int)(m:Nat):(candI f k m).length<=m:=by
 unfold candI
 rw[List.length_map]
 exact Nat.le_trans (List.length_filter_le ..) (by simp)
theorem Qfo(f:Field)(kf:FewF f)(k:Int):Ev (fun n=>F_bf n f k) (bif fieldB f then bif decide (k<1)then([],310)else((candP (allP f) k).map (·.Bib),0)else([],240)):=by
 have hr:=kf.runs
 unfold F_bf
 refine Ev.bind (Qea f kf) ?_
 cases hf:fieldB f with
 |false=>exact Qb _
 |true=>
  have o:=QdM kf hf
  simp only[cond_true,bne_self_eq_false,cond_false]
  refine Qar (fun _=>Qb _) fun _=>?_
  refine Ev.bind (v:=(candP (allP f) k).map (·.Bib)) ?_ (Qb _)
  have:Ev (fun n=>iter (F_ic n f k) n (([]:List Int),0)) (candI f k f.Runners.length):=by
   refine Ev.iter (fun m=>(candI f k m,(m:Int))) f.Runners.length rfl (fun m hm=>?_) ?_
   ·have hl:=Qhm f k m
    unfold F_ic
    simp only[ltN hm,cond_true,Q8 (show m<=1048576 by omega),Qo (List.getElem?_eq_getElem hm),Option.bind_some,QeM (show(candI f k m).length<=140737488 by omega)]
    refine Ev.bind (QkN f o hm k) ?_
    rw[Qf6,QjC,QgG hm]
    cases candB k (ofP f m)with
    |true=>exact Qb _
    |false=>exact(Qb _).eq (by simp)
   ·unfold F_ic
    simp only[geN (Nat.le_refl _),cond_false]
    exact Qb _
  exact this
theorem Qhg(f:Field)(kf:FewF f)(k:Int):Ev (fun n=>F_h n f k) (bif fieldB f then bif decide (k<1)then([],310)else((candP (allP f) k).map (·.Bib),0)else([],240)):=by
 have hr:=kf.runs
 have hl:(candP (allP f) k).length<=6:=by
  have:(candP (allP f) k).length<=(allP f).length:=List.length_filter_le ..
  rw[Qdu]at this;omega
 unfold F_h
 refine Ev.bind (QkO f kf) ?_
 cases hf:fieldB f with
 |false=>exact Qb _
 |true=>
  simp only[cond_true,bne_self_eq_false,cond_false]
  refine Qar (fun _=>Qb _) fun _=>?_
  refine Ev.bind (QiP (allP f) k (by rw[Qdu];omega)) ?_
  refine Ev.bind (Qj5 (step:=fun n=>F_ds n (candP (allP f) k)) (candP (allP f) k) (·.Bib) (by omega) (fun i x acc ha hacc=>?_) fun acc=>?_) (Qb _)
  ·have:=ha.lt'
   unfold F_ds
   simp only[ha.lt,cond_true,ha.ix,Option.bind_some,ha.nx,QeM (show acc.length<=140737488 by omega)]
   exact Qb _
  ·unfold F_ds
   simp only[Qac,cond_false]
   exact Qb _
theorem Qg5(l:List Int)(hl:l.length<=1048576):Ev (fun n=>F_u n l l) true:=by
 unfold F_u
 simp only[bne_self_eq_false,cond_false]
 refine Ev.bind (v:=Ctl.cont ()) (Ev.iter (fun i=>(i:Int)) l.length rfl (fun i hi=>?_) ?_) (Qb _)
 ·have ha:=atN hl hi
  unfold F_io
  simp only[ha.lt,cond_true,ha.ix,Option.bind_some,ha.nx,bne_self_eq_false,cond_false]
  exact Qb _
 ·unfold F_io
  simp only[Qac,cond_false]
  exact Qb _
end Go.Sw
