/- PrizesEither: no rank is both certain and open; each rank with a prize that some runner can have is one of both. -/
import Derived.Test.YtkfjchmhgpkcbaaGreatQ31Ei
set_option linter.unusedVariables false
set_option linter.unusedSimpArgs false
namespace Go.Sw
theorem QmJ:F_fx 300=some true:=by kernel_rfl
def soleR(all:List Rank)(x:Int):Option Rank:=match candP all x with
 |[r]=>bif r.Kind==1 then some r else none
 |_=>none
def openB(all:List Rank)(x:Int):Bool:= !(candP all x).isEmpty&&(soleR all x).isNone
theorem Qdy(all:List Rank)(s:List Int×MapI)(x v:Int):divS all s (x,v)=match soleR all x with
  |some r=>(s.1,QQ s.2 r.Bib v)
  |none=>bif openB all x then(s.1++[x],s.2)else s:=by
 unfold divS openB soleR
 cases candP all x with
 |nil=>rfl
 |cons r t=>
  cases t with
  |nil=>cases q:(r.Kind==1)<;>simp[q]
  |cons y t=>simp
theorem QgN(all:List Rank)(g:Int->Int):∀(ks:List Int) (s:List Int×MapI),((ks.map fun k=>(k,g k)).foldl (divS all) s).1=s.1++ks.filter (openB all)
 |[],s=>by simp
 |x::ks,s=>by
  rw[List.map_cons,List.foldl_cons,QgN all g ks,Qdy,List.filter_cons]
  cases h:soleR all x with
  |some r=>
   have:openB all x=false:=by unfold openB;rw[h];simp
   simp[this]
  |none=>
   cases q:openB all x<;>simp
theorem Qik(all:List Rank)(g:Int->Int)(b v:Int):∀(ks:List Int) (s:List Int×MapI),Yn ((ks.map fun k=>(k,g k)).foldl (divS all) s).2 b=some v->
  Yn s.2 b=some v\/ ∃x∈ks,∃r,soleR all x=some r/\r.Bib=b/\v=g x
 |[],s,h=>.inl h
 |x::ks,s,h=>by
  rw[List.map_cons,List.foldl_cons]at h
  rcases Qik all g b v ks _ h with q|⟨y,hy,q⟩
  ·rw[Qdy]at q
   cases hr:soleR all x with
   |none=>
    rw[hr]at q
    simp only at q
    cases z:openB all x<;>rw[z]at q<;>exact .inl q
   |some r=>
    rw[hr]at q
    simp only at q
    rw[QaC]at q
    by_cases e:b=r.Bib
    ·rw[if_pos e]at q
     exact .inr ⟨x,List.mem_cons_self ..,r,hr,e.symm,(Option.some.inj q).symm⟩
    ·rw[if_neg e]at q
     exact .inl q
  ·exact .inr ⟨y,List.mem_cons_of_mem _ hy,q⟩
theorem Qij(all:List Rank)(g:Int->Int)(b:Int):∀(ks:List Int) (s:List Int×MapI),((Yn s.2 b).isSome=true\/ ∃x∈ks,∃r,soleR all x=some r/\r.Bib=b)->
  (Yn ((ks.map fun k=>(k,g k)).foldl (divS all) s).2 b).isSome=true
 |[],s,h=>by
  rcases h with h|⟨x,hx,_⟩
  ·exact h
  ·cases hx
 |x::ks,s,h=>by
  rw[List.map_cons,List.foldl_cons]
  refine Qij all g b ks _ ?_
  have keep:(Yn s.2 b).isSome=true->(Yn (divS all s (x,g x)).2 b).isSome=true:=by
   intro q
   rw[Qdy]
   cases hr:soleR all x with
   |none=>simp only;cases openB all x<;>exact q
   |some r=>
    simp only
    rw[QaC]
    split
    ·rfl
    ·exact q
  rcases h with h|⟨y,hy,r,h1,h2⟩
  ·exact .inl (keep h)
  ·rcases List.mem_cons.1 hy with rfl|hy
   ·left
    rw[Qdy,h1]
    simp only
    rw[QaC,if_pos h2.symm];rfl
   ·exact .inr ⟨y,hy,r,h1,h2⟩
theorem QgT{all:List Rank}{x:Int}{r:Rank}(h:r∈candP all x):r∈all/\(r.Kind != 3)=true/\r.Lo<=x/\x<=r.Hi:=by
 obtain⟨h1,h2⟩:=List.mem_filter.1 h
 simp only[candB,Bool.and_eq_true,decide_eq_true_eq]at h2
 exact⟨h1,h2.1,h2.2.1,h2.2.2⟩
theorem Qfw{f:Field}{x:Int}{r:Rank}(h:soleR (allP f) x=some r):∃i,i<f.Runners.length/\ofP f i=r/\(r.Kind==1)=true/\r.Lo=x/\1<=x/\x<=(f.Runners.length:Int):=by
 unfold soleR at h
 match hc:candP (allP f) x,h with
 |[a],h=>
  simp only at h
  cases q:(a.Kind==1)with
  |false=>rw[q]at h;cases h
  |true=>
   rw[q]at h
   obtain rfl:a=r:=Option.some.inj h
   obtain⟨h1,h2,h3,h4⟩:=QgT (show a∈candP (allP f) x by rw[hc];simp)
   obtain⟨i,hi,e⟩:=Qis h1
   subst e
   obtain⟨g1,g2,g3⟩:=Qkl hi h2
   have:=g3 q
   exact⟨i,hi,rfl,q,by omega,by omega,by omega⟩
 |[],h=>cases h
 |a::b::t,h=>cases h
theorem QlM{f:Field}{x:Int}(h:openB (allP f) x=true):1<=x/\x<=(f.Runners.length:Int):=by
 unfold openB at h
 simp only[Bool.and_eq_true]at h
 match hc:candP (allP f) x,h.1 with
 |a::t,_=>
  obtain⟨h1,h2,h3,h4⟩:=QgT (show a∈candP (allP f) x by rw[hc];simp)
  obtain⟨i,hi,e⟩:=Qis h1
  subst e
  obtain⟨g1,g2,_⟩:=Qkl hi h2
  omega
 |[],z=>cases z
theorem ev_Of(f:Field)(o:FieldOk f){i:Nat}(hi:i<f.Runners.length):Ev (fun n=>F_cr n f (i:Int)) (ofP f i,0):=by
 have hr:=o.few.runs
 unfold F_cr F_ai
 refine Ev.bind (v:=0) (Ev.bind (Qek f o.few) ?_) ?_
 ·rw[o.ok]
  refine YK (Ev.bind (v:=Ctl.cont ()) ?_ (Qa _))
  refine Ev.iter (fun j=>(j:Int)) 1 rfl (fun j hj=>?_) ?_
  ·obtain rfl:j=0:=by omega
   unfold F_in
   have e1:decide (((0:Nat):Int)<(([(i:Int)]:List Int).length:Int))=true:=rfl
   have e2:idx [(i:Int)] ((0:Nat):Int)=some (i:Int):=QV (i:=0) rfl
   simp only[e1,cond_true,e2,Option.bind_some,Ys (show¬(i:Int)<0 by omega),cond_false,Ys (show¬(f.Runners.length:Int)<=(i:Int)by omega)]
   exact(Qa _).eq (by rw[Y6 (by omega)])
  ·unfold F_in
   exact Qa _
 ·exact YK (Ev.bind (QmB f o hi) (Qa _))
theorem QkP(f:Field)(o:FieldOk f)(k:Int)(hk:1<=k):Ev (fun n=>F_p n f k) ((candP (allP f) k).map (·.Bib),0):=by
 have hr:=o.few.runs
 have hl:(candP (allP f) k).length<=6:=by
  have:(candP (allP f) k).length<=(allP f).length:=List.length_filter_le ..
  rw[Qer]at this;omega
 unfold F_p
 refine Ev.bind (QkQ f o.few) ?_
 rw[o.ok]
 simp only[cond_true,bne_self_eq_false,cond_false,Ys (show¬k<1 by omega)]
 refine Ev.bind (QgI (allP f) k (by rw[Qer];omega)) ?_
 refine Ev.bind (Qmm (step:=fun n=>F_hr n (candP (allP f) k)) (candP (allP f) k) (·.Bib) (by omega) (fun i x acc ha hacc=>?_) fun acc=>?_) (Qa _)
 ·have:=ha.lt'
  unfold F_hr
  simp only[ha.lt,cond_true,ha.ix,Option.bind_some,ha.nx,Qc3 (show acc.length<=140737488 by omega)]
  exact Qa _
 ·unfold F_hr
  simp only[YR,cond_false]
  exact Qa _
theorem Qie(l:List Int)(x:Int)(hl:l.length<=1048576):Ev (fun n=>F_aq n l x) (l.any fun y=>y==x):=by
 unfold F_aq
 refine Ev.bind (QaQ (step:=fun n=>F_fu n l x) l (fun y=>y==x) (fun i=>(i:Int)) (Ctl.done true) (Ctl.cont ()) (by omega) rfl (fun i y ha hq=>?_) (fun i y ha hq=>?_) ?_) ?_
 ·unfold F_fu
  simp only[ha.lt,cond_true,ha.ix,Option.bind_some,ha.nx,hq,cond_false]
  exact Qa _
 ·unfold F_fu
  simp only[ha.lt,cond_true,ha.ix,Option.bind_some,ha.nx,hq]
  exact Qa _
 ·unfold F_fu
  simp only[YR,cond_false]
  exact Qa _
 ·cases l.any fun y=>y==x<;>exact Qa _
def matchE(c:Course)(f:Field)(d k:Int)(p:Payment)(i:Nat):Bool:=(bibF f i==p.Bib)&&(((ofP f i).Kind==1)&&(amountS c d k (ofP f i).Lo==p.Amount))
abbrev setQ(ws:List Int):List (Int×Bool):=Q0 (fun x=>x) true ws
def wsP(c:Course)(f:Field)(d k:Int)(p:Payment)(j:Nat):List Int:=((List.range j).filter (matchE c f d k p)).map fun i=>(ofP f i).Lo
theorem QjG(c:Course)(f:Field)(d k:Int)(p:Payment)(j:Nat):wsP c f d k p (j+1)=wsP c f d k p j++(bif matchE c f d k p j then[(ofP f j).Lo]else[]):=by
 unfold wsP
 rw[List.range_succ,List.filter_append,List.map_append]
 cases h:matchE c f d k p j<;>simp[h]
theorem Qk4(q:Nat->Bool)(j:Nat):(List.range (j+1)).any q=((List.range j).any q||q j):=by rw[List.range_succ,List.any_append];simp
theorem QkJ(c:Course)(f:Field)(o:FieldOk f)(d k:Int)(hp:c.Prizes.length<=1048576)(p:Payment)(ws:List Int):
  Ev (fun n=>iter (F_ie n c f d k p) n (setQ ws,false,0)) (setQ (ws++wsP c f d k p f.Runners.length),(List.range f.Runners.length).any (matchE c f d k p)):=by
 have hr:=o.few.runs
 refine Ev.iter (fun j=>(setQ (ws++wsP c f d k p j),(List.range j).any (matchE c f d k p),(j:Int))) f.Runners.length (by simp[wsP]) (fun j hj=>?_) ?_
 ·have ha:=atN (by omega) hj
  unfold F_ie
  simp only[ha.lt,cond_true,ha.ix,Option.bind_some,ha.nx]
  refine Ev.bind (ev_Of f o hj) ?_
  simp only[beq_self_eq_true,cond_true]
  refine Ev.bind (v:=matchE c f d k p j) ?_ ?_
  ·unfold matchE
   rw[QfQ hj]
   exact Ev.and fun _=>Ev.and fun _=>Ev.bind (Qcv c d k _ hp) (Qa _)
  ·rw[Qk4,QjG]
   cases matchE c f d k p j with
   |false=>exact(Qa _).eq (by simp)
   |true=>
    refine(Qa _).eq ?_
    simp only[cond_true,Bool.or_true, <- List.append_assoc,setQ,Qco]
 ·unfold F_ie
  simp only[YR,cond_false]
  exact Qa _
def WS(c:Course)(f:Field)(d k:Int)(l:List Payment):List Int:=l.flatMap fun p=>wsP c f d k p f.Runners.length
theorem Qmg(c:Course)(f:Field)(d k:Int)(l:List Payment)(p:Payment):WS c f d k (l++[p])=WS c f d k l++wsP c f d k p f.Runners.length:=by simp[WS]
theorem Qnr{c:Course}{f:Field}{d k:Int}{l:List Payment}{y:Int}:y∈WS c f d k l↔ ∃p∈l,∃i,i<f.Runners.length/\matchE c f d k p i=true/\(ofP f i).Lo=y:=by
 unfold WS wsP
 simp only[List.mem_flatMap,List.mem_map,List.mem_filter,List.mem_range]
 constructor
 ·rintro⟨p,hp,i,⟨h1,h2⟩,h3⟩;exact⟨p,hp,i,h1,h2,h3⟩
 ·rintro⟨p,hp,i,h1,h2,h3⟩;exact⟨p,hp,i,⟨h1,h2⟩,h3⟩
theorem QkH(c:Course)(f:Field)(o:FieldOk f)(d k:Int)(hp:c.Prizes.length<=1048576)(l:List Payment)(e:Int)(hl:l.length<=1048576)(hm:∀p∈l,(List.range f.Runners.length).any (matchE c f d k p)=true):
  Ev (fun n=>iter (F_ha n c f d k (l,e)) n ([],0)) (.cont (setQ (WS c f d k l))):=by
 refine Ev.iter (fun i=>(setQ (WS c f d k (l.take i)),(i:Int))) l.length (by simp[WS,setQ,Q0]) (fun i hi=>?_) ?_
 ·have ha:=atN hl hi
  unfold F_ha
  simp only[ha.lt,cond_true,ha.ix,Option.bind_some,ha.nx]
  refine Ev.bind (QkJ c f o d k hp l[i] _) ?_
  rw[hm _ ha.mem,ha.take,Qmg]
  exact Qa _
 ·unfold F_ha
  simp only[YR,cond_false,List.take_length]
  exact Qa _
theorem QjS(ws:List Int)(k:Int):QG (setQ ws) k false=decide (k∈ws):=by
 unfold setQ
 rw[QbD]
 simp only[List.map_id']
 by_cases h:k∈ws<;>simp[h]
theorem QdI:∀(ws:List Int) (m:List (Int×Bool)),(m.map Prod.fst).Nodup->((ws.foldl (fun m x=>QQ m x true) m).map Prod.fst).Nodup
 |[],m,h=>h
 |x::ws,m,h=>QdI ws _ (QdY _ _ h)
theorem QeV(k:Int):∀(ws:List Int) (m:List (Int×Bool)) (v:Bool),Yn (ws.foldl (fun m x=>QQ m x true) m) k=some v->k∈ws\/Yn m k=some v
 |[],m,v,h=>.inr h
 |x::ws,m,v,h=>by
  rcases QeV k ws _ v h with q|q
  ·exact .inl (List.mem_cons_of_mem _ q)
  ·rw[QaC]at q
   by_cases e:k=x
   ·exact .inl (e▸List.mem_cons_self ..)
   ·rw[if_neg e]at q;exact .inr q
theorem Qkq{m:MapI}(h:(m.map Prod.fst).Nodup):(keysS m).Nodup:=((Q2 ltI _).nodup_iff).2 h
theorem law_PrizesEither(c:Course)(f:Field)(d k:Int)(hc:Course.wf c)(hf:Field.wf f)(h3:QE .i64 d)(h4:QE .i64 k):∃n,F_ew n c f d k=some true:=by
 have w:=Qg8 hc
 have q:=QhK hc
 obtain⟨t1,t2⟩:=QlE hc
 obtain⟨b1,p1,q1⟩:=QiV c w q t1 t2
 obtain⟨b2,p2,q2⟩:=few25 f hf
 refine Ev.ex ?_
 unfold F_ew
 refine Ev.bind (Ev.const QmJ) ?_
 simp only[Bool.not_true,cond_false]
 refine Ev.bind (v:= !b1|| !b2) (Ev.bind p1 (Ql fun _=>Ev.bind p2 (Qa _))) ?_
 refine Qnw (fun _=>Qa _) fun hb=>?_
 simp only[Bool.or_eq_false_iff,Bool.not_eq_false']at hb
 have fl:=q1 hb.1
 have ff:=q2 hb.2
 have hlen:=w.prize
 obtain⟨e1,he1⟩:=QfO c w q fl t1 t2
 refine Ev.bind (Qhx c f d k e1 he1 ff hlen) ?_
 refine Ev.bind (Ql1 c f d k e1 he1 ff hlen) ?_
 unfold certV openV
 cases hk:(checkV e1 c f d k != 0)with
 |true=>
  simp only[cond_true,hk,beq_self_eq_true,List.length_nil]
  exact Ev.bind (Qa _) (Ev.bind (Qa _) (Qa _))
 |false=>
 have hfb:=Qdh hk
 have o:=QeI ff hfb
 have hr:=o.few.runs
 have he0:(e1 != 0)=false:=by
  unfold checkV at hk
  cases z:(e1 != 0)with
  |false=>rfl
  |true=>rw[z]at hk;simp only[cond_true]at hk;rw[z]at hk;exact hk
 have po:=QgY (QgR c w q fl t1 t2 he1 he0)
 simp only[cond_false,bne_self_eq_false,Option.bind_some]
 have hopen:(divF (allP f) (amtF c d k)).1=(keysS (amtF c d k)).filter (openB (allP f)):=by
  unfold divF ordP
  rw[QgN];rfl
 have hget:∀b v,Yn (divF (allP f) (amtF c d k)).2 b=some v->∃x∈keysS (amtF c d k),∃r,soleR (allP f) x=some r/\r.Bib=b/\v=amountS c d k x:=by
  intro b v h
  unfold divF ordP at h
  rcases Qik _ _ _ _ _ _ h with z|⟨x,hx,r,g1,g2,g3⟩
  ·cases z
  ·exact⟨x,hx,r,g1,g2,by rw[g3,Qmc po]⟩
 have hhas:∀x∈keysS (amtF c d k),∀r,soleR (allP f) x=some r->(Yn (divF (allP f) (amtF c d k)).2 r.Bib).isSome=true:=by
  intro x hx r h
  unfold divF ordP
  exact Qij _ _ _ _ _ (.inr ⟨x,hx,r,h,rfl⟩)
 have hl1:=Qeq c d k
 have hl2:=QgP (allP f) (amtF c d k)
 have hksn:(keysS (amtF c d k)).Nodup:=Qkq (Qfj d k c.Prizes [] List.nodup_nil)
 rw[hopen]at hl2⊢
 have hks:∀x,x∈keysS (amtF c d k)↔0<amountS c d k x:=fun x=>Qmd po d k x
 generalize(divF (allP f) (amtF c d k)).2=m1 at*
 have hkl:=Qc0 m1
 have pay_mem:∀p,p∈payP m1↔ ∃v,Yn m1 p.Bib=some v/\p.Amount=v:=by
  intro p
  have hD:∀b v,Yn m1 b=some v->QG m1 b 0=v:=by intro b v h;unfold QG;rw[h];rfl
  unfold payP ordP
  simp only[List.mem_map]
  constructor
  ·rintro⟨_,⟨b,hb,rfl⟩,rfl⟩
   have:b∈m1.map Prod.fst:=(Q2 ltI _).mem_iff.1 hb
   obtain⟨v,hv⟩:=(Qcp m1 b).1 this
   exact⟨v,hv,hD b v hv⟩
  ·rintro⟨v,hv,e⟩
   refine⟨(p.Bib,v),⟨p.Bib,(Q2 ltI _).mem_iff.2 ((Qcp m1 _).2 ⟨v,hv⟩),by rw[hD _ _ hv]⟩,?_⟩
   cases p;simp only at e⊢;rw[e]
 have pay_ok:∀p∈payP m1,∃x∈keysS (amtF c d k),∃i,i<f.Runners.length/\soleR (allP f) x=some (ofP f i)/\(ofP f i).Lo=x/\matchE c f d k p i=true:=by
  intro p hp
  obtain⟨v,hv,e⟩:=(pay_mem p).1 hp
  obtain⟨x,hx,r,g1,g2,g3⟩:=hget _ _ hv
  obtain⟨i,hi,rfl,r2,r3,_,_⟩:=Qfw g1
  refine⟨x,hx,i,hi,g1,r3,?_⟩
  unfold matchE
  rw[QbM]at g2
  rw[g2,r2,r3,e,g3]
  simp
 have hmet:∀p∈payP m1,(List.range f.Runners.length).any (matchE c f d k p)=true:=by
  intro p hp
  obtain⟨_,_,i,hi,_,_,g⟩:=pay_ok p hp
  exact List.any_eq_true.2 ⟨i,by simpa using hi,g⟩
 have hWS:∀y,y∈WS c f d k (payP m1)↔y∈keysS (amtF c d k)/\(soleR (allP f) y).isSome=true:=by
  intro y
  rw[Qnr]
  constructor
  ·rintro⟨p,hp,i,hi,g1,g2⟩
   obtain⟨x,hx,j,hj,s1,s2,s3⟩:=pay_ok p hp
   have e1:bibF f i=p.Bib:=by unfold matchE at g1;simp only[Bool.and_eq_true,beq_iff_eq]at g1;exact g1.1
   have e2:bibF f j=p.Bib:=by unfold matchE at s3;simp only[Bool.and_eq_true,beq_iff_eq]at s3;exact s3.1
   have:i=j:=Qge o hi hj (by rw[QbM,QbM,e1,e2])
   subst this
   obtain rfl:x=y:=s2.symm.trans g2
   exact⟨hx,by rw[s1];rfl⟩
  ·rintro⟨hy,hs⟩
   obtain⟨r,hr1⟩:=Option.isSome_iff_exists.1 hs
   obtain⟨v,hv⟩:=Option.isSome_iff_exists.1 (hhas y hy r hr1)
   have hp:({Bib:=r.Bib,Amount:=v}:Payment)∈payP m1:=(pay_mem _).2 ⟨v,hv,rfl⟩
   obtain⟨x,hx,j,hj,s1,s2,s3⟩:=pay_ok _ hp
   obtain⟨i,hi,rfl,r2,r3,_,_⟩:=Qfw hr1
   have e2:bibF f j=(ofP f i).Bib:=by unfold matchE at s3;simp only[Bool.and_eq_true,beq_iff_eq]at s3;exact s3.1
   have:j=i:=Qge o hj hi (by rw[QbM,e2])
   subst this
   exact⟨_,hp,j,hj,s3,r3⟩
 have hpl:(payP m1).length<=1048576:=by
  have:(payP m1).length=m1.length:=by simp[payP,ordP,hkl]
  omega
 refine Ev.bind (QkH c f o d k hlen (payP m1) 0 hpl hmet) ?_
 generalize hws:WS c f d k (payP m1)=ws at*
 have hol:((keysS (amtF c d k)).filter (openB (allP f))).length<=1048576:=by omega
 refine Ev.bind (v:=Ctl.cont ()) ?_ ?_
 ·refine Ev.iter (fun i=>((i+1:Nat):Int)) f.Runners.length rfl (fun i hi=>?_) ?_
  ·unfold F_it
   simp only[YC (show((i+1:Nat):Int)<=(f.Runners.length:Int)by omega),cond_true,Y6 (show i+1<=1048576 by omega)]
   refine Ev.bind (QkP f o ((i+1:Nat):Int) (by omega)) ?_
   simp only[bne_self_eq_false,cond_false,Option.bind_some]
   refine Ev.bind (Ev.bind (Qcv c d k _ hlen) (Ev.and fun _=>Qa _)) ?_
   generalize((i+1:Nat):Int)=x
   refine Ev.bind (v:=false) ?_ (Qa _)
   refine Ev.bind (Qie _ x hol) ?_
   refine(Ql fun _=>Ev.and fun _=>Ev.bind (Qie _ x hol) (Qa _)).eq ?_
   rw[QjS]
   have hany:((keysS (amtF c d k)).filter (openB (allP f))).any (fun y=>y==x)=decide (x∈keysS (amtF c d k)/\openB (allP f) x=true):=by
    rw[Bool.eq_iff_iff,List.any_eq_true,decide_eq_true_eq]
    constructor
    ·rintro⟨y,hy,e⟩
     obtain rfl:y=x:=by simpa using e
     exact List.mem_filter.1 hy
    ·intro h
     exact⟨x,List.mem_filter.2 h,by simp⟩
   rw[hany]
   have hone:decide (0<amountS c d k x)=decide (x∈keysS (amtF c d k)):=by
    rw[Bool.eq_iff_iff,decide_eq_true_eq,decide_eq_true_eq];exact(hks x).symm
   have hpaid:decide (x∈ws)=decide (x∈keysS (amtF c d k)/\(soleR (allP f) x).isSome=true):=by
    rw[Bool.eq_iff_iff,decide_eq_true_eq,decide_eq_true_eq];exact hWS x
   rw[hone,hpaid]
   by_cases hx:x∈keysS (amtF c d k)
   ·simp only[hx,true_and,decide_true,Bool.true_and]
    cases hs:(soleR (allP f) x)with
    |some r=>
     have ho:openB (allP f) x=false:=by unfold openB;rw[hs];simp
     have hcn:decide (0<(((candP (allP f) x).map (·.Bib)).length:Int))=true:=by
      unfold soleR at hs
      match hc:candP (allP f) x,hs with
      |a::t,_=>exact YC (by simp)
      |[],hs=>cases hs
     rw[hcn,ho];rfl
    |none=>
     cases hc:candP (allP f) x with
     |nil=>
      have ho:openB (allP f) x=false:=by unfold openB;rw[hc];rfl
      rw[ho];rfl
     |cons a t=>
      have ho:openB (allP f) x=true:=by unfold openB;rw[hs,hc];rfl
      rw[ho]
      have hcn:decide (0<(((a::t).map (·.Bib)).length:Int))=true:=YC (by simp)
      rw[hcn];rfl
   ·simp only[hx,false_and,decide_false,Bool.false_and]
    rfl
  ·unfold F_it
   simp only[Ys (show¬((f.Runners.length+1:Nat):Int)<=(f.Runners.length:Int)by omega),cond_false]
   exact Qa _
 ·have hsn:((setQ ws).map Prod.fst).Nodup:=QdI ws [] List.nodup_nil
  have hskey:∀y∈(setQ ws).map Prod.fst,y∈ws:=by
   intro y hy
   obtain⟨v,hv⟩:=(Qcp (setQ ws) y).1 hy
   rcases QeV y ws [] v hv with z|z
   ·exact z
   ·cases z
  have hnd:((keysS (amtF c d k)).filter (openB (allP f))++(setQ ws).map Prod.fst).Nodup:=by
   refine List.nodup_append.2 ⟨List.filter_sublist.nodup hksn,hsn,?_⟩
   intro a ha b hb e
   subst e
   have h1:=(List.mem_filter.1 ha).2
   have h2:=((hWS a).1 (hskey a hb)).2
   unfold openB at h1
   simp only[Bool.and_eq_true]at h1
   have:=h1.2
   rw[Option.isSome_iff_exists]at h2
   obtain⟨r,hr1⟩:=h2
   rw[hr1]at this
   cases this
  have hsub:∀a∈(keysS (amtF c d k)).filter (openB (allP f))++(setQ ws).map Prod.fst,a∈(List.range f.Runners.length).map fun(i:Nat)=>((i+1:Nat):Int):=by
   intro a ha
   have hb:1<=a/\a<=(f.Runners.length:Int):=by
    rcases List.mem_append.1 ha with z|z
    ·exact QlM (List.mem_filter.1 z).2
    ·obtain⟨r,hr1⟩:=Option.isSome_iff_exists.1 ((hWS a).1 (hskey a z)).2
     obtain⟨_,_,_,_,_,g1,g2⟩:=Qfw hr1
     exact⟨g1,g2⟩
   exact List.mem_map.2 ⟨(a-1).toNat,by simp;omega,by omega⟩
  have hle:=Qgk hnd hsub
  rw[List.length_append,List.length_map,List.length_map,List.length_range]at hle
  have e:IntKind.i64.wrap ((((keysS (amtF c d k)).filter (openB (allP f))).length:Int)+((setQ ws).length:Int))=((((keysS (amtF c d k)).filter (openB (allP f))).length+(setQ ws).length:Nat):Int):=by rw[Ye (by omega) (by omega)];omega
  simp only[e]
  exact(Qa _).eq (YC (by omega))
end Go.Sw
