/- PrizesInSpec: In is as the reference says. -/
import Derived.Test.YtkfjchmhgpkcbaaGreatQ31In
set_option linter.unusedVariables false
set_option linter.unusedSimpArgs false
namespace Go.Sw
abbrev MapL:=List (Int×List Int)
def lift(G:MapL):List (Int×Option (List Int)):=G.map λp=>(p.1,some p.2)
theorem QfK(k:Int):∀G:MapL,YV (lift G) k=(YV G k).map some
 |[]=>rfl
 |p::G=>by
  have e:lift (p::G)=(p.1,some p.2)::lift G:=rfl;rw[e,Ja,Ja,QfK k G];by_cases q:p.1=k<;>simp[q]
theorem Qin(G:MapL)(k:Int):Qhc (lift G) k=some (QI G k [],Qar (lift G) k):=by
 unfold Qhc Qj4 QI;rw[QfK];cases YV G k<;>rfl
theorem Qlu(G:MapL)(k:Int)(v:List Int):Q5 (Qar (lift G) k) k (some v)=lift (Q5 G k v):=by
 have a:((Qar (lift G) k).any λp=>decide (p.1=k))=G.any λp=>decide (p.1=k):=by
  unfold Qar lift;rw[List.map_map,List.any_map];refine congrArg (λq=>G.any q) (funext λp=>?_);by_cases e:p.1=k<;>simp[e]
 unfold Q5;rw[a];cases h:G.any λp=>decide (p.1=k)with
 |true=>
  simp only[cond_true];unfold Qar lift;rw[List.map_map,List.map_map,List.map_map];refine List.map_congr_left λp _=>?_;by_cases e:p.1=k<;>simp[e]
 |false=>
  have e:Qar (lift G) k=lift G:=by
   unfold Qar lift;rw[List.map_map];refine List.map_congr_left λp b=>?_;have:¬p.1=k:=λq=>by rw[Xy.2 ⟨p,b,by simp[q]⟩]at h;cases h
   simp[this]
  rw[e];unfold lift;simp
theorem Qep:∀G:MapL,QcC (lift G)=some G
 |[]=>rfl
 |p::G=>by
  have e:lift (p::G)=(p.1,some p.2)::lift G:=rfl;rw[e];unfold QcC;rw[Qep G];rfl
def grpS(f:Field)(h:History)(G:MapL)(i:Nat):MapL:=bif decide (0<((rankG f h i:Nat):Int))then Q5 G (rankG f h i:Nat) (QI G (rankG f h i:Nat) []++[bibF f i])else G
def grpM(f:Field)(h:History)(m:Nat):MapL:=(List.range m).foldl (grpS f h) []
def inG(f:Field)(h:History)(k:Int)(i:Nat):Bool:=((rankG f h i:Nat):Int)==k
def grpL(f:Field)(h:History)(m:Nat)(k:Int):List Int:=((List.range m).filter (inG f h k)).map (bibF f)
theorem Qdh(f:Field)(h:History)(m:Nat)(k:Int):grpL f h (m+1) k=grpL f h m k++(bif inG f h k m then[bibF f m]else[]):=by
 unfold grpL;rw[XA,List.filter_append,Xg];cases q:inG f h k m<;>simp[q]
theorem QbJ(f:Field)(h:History)(m:Nat)(k:Int):(grpL f h m k).length<=m:=by
 unfold grpL;rw[Va];exact X4 (List.length_filter_le ..) (by simp)
theorem Qa3(f:Field)(h:History)(m:Nat):grpM f h (m+1)=grpS f h (grpM f h m) m:=Qdi _ _ _
theorem Qgu(f:Field)(h:History){k:Int}(hk:0<k):∀m,QI (grpM f h m) k []=grpL f h m k
 |0=>rfl
 |m+1=>by
  have ih:=Qgu f h hk m;rw[Qa3,Qdh];unfold grpS inG;by_cases h0:0<((rankG f h m:Nat):Int)
  .rw[QN h0];simp only[cond_true];rw[Qce];by_cases e:k=((rankG f h m:Nat):Int)
   .rw[if_pos e, <- e,ih,beq_self_eq_true];rfl
   .have:(((rankG f h m:Nat):Int)==k)=false:=beq_false_of_ne λq=>e q.symm;rw[if_neg e,ih,this];simp
  .rw[QD h0];have:(((rankG f h m:Nat):Int)==k)=false:=beq_false_of_ne (by omega);simp only[cond_false,this,Vp];exact ih
theorem Qdg(f:Field)(h:History):∀m,((grpM f h m).map Prod.fst).Nodup
 |0=>List.nodup_nil
 |m+1=>by
  rw[Qa3];unfold grpS;cases decide (0<((rankG f h m:Nat):Int))with
  |true=>exact Qeq _ _ (Qdg f h m)
  |false=>exact Qdg f h m
theorem Qjk(f:Field)(h:History):∀m,(grpM f h m).length<=m
 |0=>X2 _
 |m+1=>by
  rw[Qa3];have:=Qjk f h m;unfold grpS;cases decide (0<((rankG f h m:Nat):Int))with
  |true=>exact X4 (Qhh _ _ _) (by omega)
  |false=>exact X4 this (by omega)
theorem Qjl(f:Field)(h:History)(k:Int):∀m,k∈(grpM f h m).map Prod.fst↔0<k/\grpL f h m k≠[]
 |0=>by simp[grpM,grpL]
 |m+1=>by
  have ih:=Qjl f h k m;rw[Qa3,Qdh];unfold grpS inG;by_cases h0:0<((rankG f h m:Nat):Int)
  .rw[QN h0];simp only[cond_true];have e:(Q5 (grpM f h m) ((rankG f h m:Nat):Int) (QI (grpM f h m) ((rankG f h m:Nat):Int) []++[bibF f m])).map Prod.fst=_:=QbU _ _ _;rw[e];by_cases q:k=((rankG f h m:Nat):Int)
   .have:(((rankG f h m:Nat):Int)==k)=true:=by rw[q];simp
    rw[this];have a:k∈(if((rankG f h m:Nat):Int)∈(grpM f h m).map (·.1)then(grpM f h m).map (·.1)else(grpM f h m).map (·.1)++[((rankG f h m:Nat):Int)]):=by
     rw[<- q];split
     .assumption
     .simp
    exact⟨λ_=>⟨by omega,by simp⟩,λ_=>a⟩
   .have:(((rankG f h m:Nat):Int)==k)=false:=beq_false_of_ne λz=>q z.symm;rw[this];simp only[cond_false,Vp];rw[<- ih];split
    .exact Iff.rfl
    .rw[List.mem_append];exact⟨λz=>z.elim id λz=>(q (by simpa using z)).elim,.inl⟩
  .rw[QD h0];by_cases q:0<k
   .have:(((rankG f h m:Nat):Int)==k)=false:=beq_false_of_ne (by omega);rw[this];simp only[cond_false,Vp];exact ih
   .simp only[cond_false];rw[ih];exact⟨λz=>(q z.1).elim,λz=>(q z.1).elim⟩
def keysL(G:MapL):List Int:=QaD ltI (G.map Prod.fst)
theorem Qkb(G:MapL):(keysL G).length=G.length:=by unfold keysL;rw[(QS _ _).length_eq,Va]
theorem QgF(G:MapL)(d:G.length<=1048576):Ev (λn=>F_fe n G) ((keysL G).map (λk=>(k,QI G k [])),()):=by
 have h:=Qkb G;unfold F_fe F_jh;simp only[XR];refine Ea (v:=keysL G) ?_ ?_
 .unfold F_ji QkD;have e:Nat.ble (List.map Prod.fst G).length Q1=true:=Qjp (by rw[Va];exact d);rw[e];refine Qga (Ev.anyP λp b=>?_);have:p.length=G.length:=by rw[b.length_eq,Va]
  rw[Qg2 p (by omega),QfM b];exact Qa _
 refine Ea (Qh9 (step:=λn=>F_jm n G (keysL G)) (keysL G) (λk=>(k,QI G k [])) (by omega) (λi x a=>?_) ?_).ev ((Qa _).eq ?_)
 .unfold F_jm;simp only[a.lt,cond_true,a.ix,XR,a.nx];exact Qa _
 .unfold F_jm;simp only[Yt,cond_false];exact Qa _
 .simp
def ksG(f:Field)(h:History)(n:Nat):List Int:=((List.range n).map rkN).filter λk=> !(grpL f h n k).isEmpty
theorem Qnw{f:Field}{h:History}:keysL (grpM f h f.Runners.length)=ksG f h f.Runners.length:=by
 refine Qfw (lt:=λa b:Int=>a<b) (λa b h=>by omega) ?_ ?_ λx=>?_
 .have m:(keysL (grpM f h f.Runners.length)).Pairwise (· <= ·):=(YL (QcF _)).imp λ{a b} h=>by simp[ltI]at h;exact h
  have d:(keysL (grpM f h f.Runners.length)).Pairwise (· ≠ ·):=((QS ltI _).nodup_iff).2 (Qdg f h _);exact m.imp₂ (λa b p q=>by omega) d
 .unfold ksG;refine List.Pairwise.sublist List.filter_sublist ?_;exact List.Pairwise.map rkN (λa b h=>by unfold rkN;omega) List.pairwise_lt_range
 .have e:x∈keysL (grpM f h f.Runners.length)↔x∈(grpM f h f.Runners.length).map Prod.fst:=(QS ltI _).mem_iff;rw[e,Qjl];unfold ksG;rw[Xe];simp only[Xf,List.mem_range,Bool.not_eq_true',List.isEmpty_eq_false_iff];constructor
  .rintro⟨m,d⟩;refine⟨?_,d⟩;obtain⟨b,n⟩:=List.exists_mem_of_ne_nil _ d;unfold grpL at n;obtain⟨i,r,_⟩:=Xf.1 n;obtain⟨l,g⟩:=Xe.1 r;have k:i<f.Runners.length:=by simpa using l
   have:=Qlt (h:=h) k;have t:((rankG f h i:Nat):Int)=x:=by simpa[inG]using g
   exact⟨(x-1).toNat,by omega,by unfold rkN;omega⟩
  .rintro⟨⟨j,s,rfl⟩,d⟩;exact⟨by unfold rkN;omega,d⟩
def prz(c:Course)(d q:Int)(k:Int)(m:Nat):List Int:=(List.range m).map λ(i:Nat)=>amountS c d q (k+(i:Int))
theorem Qha(c:Course)(d q k:Int)(m:Nat):prz c d q k (m+1)=prz c d q k m++[amountS c d q (k+(m:Int))]:=by unfold prz;rw[XA,Xg];rfl
theorem QbT(c:Course)(d q k:Int)(m:Nat):(prz c d q k m).length=m:=by unfold prz;simp
def zipP:List Int->List Int->List Payment
 |b::g,p::ps=>bif decide (0<p)then {Bib:=b,Amount:=p}::zipP g ps else zipP g ps
 |_,_=>[]
theorem Qfu(b:Int)(g:List Int)(p:Int)(ps:List Int):zipP (b::g) (p::ps)=bif decide (0<p)then {Bib:=b,Amount:=p}::zipP g ps else zipP g ps:=rfl
def msetP(m:MapI)(p:Payment):MapI:=Q5 m p.Bib p.Amount
def insQ(l:List Payment)(p:Payment):List Payment:=insP p l
def srtP(l:List Payment):List Payment:=l.foldl insQ []
theorem Qld:∀(l:List Int) (n:Int),0<=n->n<=1125899906842624->(∀x∈l,0<=x)->(∃s:Nat,sumV n l=.cont (s:Int)/\s<=1125899906842624/\(s:Int)=n+l.sum)\/sumV n l=.done (0,300)
 |[],n,h0,h1,_=>.inl ⟨n.toNat,by unfold sumV;rw[Int.toNat_of_nonneg h0],by omega,by simp;omega⟩
 |x::l,n,h0,h1,h2=>by
  have hx:=h2 x (by simp);unfold sumV;cases q:badA x||badA (IntKind.i64.wrap (n+x))with
  |true=>exact .inr rfl
  |false=>
   simp only[X6,badA,decide_eq_false_iff_not]at q;obtain⟨⟨q1,q2⟩,q3,q4⟩:=q;rw[Qu (by omega) (by omega)]at q3 q4⊢;simp only[cond_false];rcases Qld l (n+x) (by omega) (by omega) (λy hy=>h2 y (Ve _ hy))with⟨s,e1,e2,e3⟩|e
   .exact .inl ⟨s,e1,e2,by rw[List.sum_cons];omega⟩
   .exact .inr e
theorem QiM{c:Course}(o:PrizesOk c)(d q r:Int):0<=amountS c d q r:=by
 unfold amountS;cases h:c.Prizes.find? (matchP d q r)with
 |none=>exact Int.le_refl _
 |some p=>
  have:=o.pos p (List.mem_of_find?_eq_some h);simp;omega
def grpPay(c:Course)(d q:Int)(f:Field)(h:History)(k:Int):Option (List Payment):=
 bif (sumP (prz c d q k (grpL f h f.Runners.length k).length)).2 != 0 then none else
  some (zipP (grpL f h f.Runners.length k) (splN (sumP (prz c d q k (grpL f h f.Runners.length k).length)).1.toNat (grpL f h f.Runners.length k).length))
theorem Qjc{c:Course}(o:PrizesOk c)(d q k:Int)(m:Nat):(∃s:Nat,sumP (prz c d q k m)=((s:Int),0)/\s<=1125899906842624/\(s:Int)=(prz c d q k m).sum)\/sumP (prz c d q k m)=(0,300):=by
 have b:∀x∈prz c d q k m,0<=x:=by
  intro x a;unfold prz at a;obtain⟨i,_,rfl⟩:=Xf.1 a;exact QiM o _ _ _
 unfold sumP;rcases Qld (prz c d q k m) 0 (Int.le_refl _) (by omega) b with⟨s,g,f,h⟩|e
 .exact .inl ⟨s,by rw[g],f,by omega⟩
 .exact .inr (by rw[e])
theorem QnG{r1:Int×List Int}{r2:List Int×Int}(u:r1.2.length=r2.1.length)(t:r1.2.length<=6)(j:MapI):Ev (λn=>iter (F_gi n r1 r2) n (j,0)) ((zipP r1.2 r2.1).foldl msetP j):=by
 have loop:∀(g a:List Int) (i:Nat) (m:MapI),r1.2.drop i=g->r2.1.drop i=a->i<=r2.1.length->EvI (λn=>F_gi n r1 r2) (m,(i:Int)) ((zipP g a).foldl msetP m):=by
  intro g a
  induction a generalizing g with
  |nil=>
   intro i m l f q;refine Ej ?_;unfold F_gi;simp only[QU f q,cond_false];refine(Qa _).eq ?_;cases g<;>rfl
  |cons p a r=>
   intro i m l f q;obtain⟨d,e⟩:=Qp (by omega) f;have k:=d.lt';cases g with
   |nil=>have:=Xu.1 l;omega
   |cons b g=>
    obtain⟨s,h⟩:=Qp (by omega) l;refine Ew (s':=((bif decide (0<p)then Q5 m b p else m),((i+1:Nat):Int))) ?_ ((r g (i+1) _ h e k).eq ?_)
    .unfold F_gi;simp only[d.lt,cond_true,d.ix,XR,d.nx,s.ix];refine Ea (v:=bif decide (0<p)then Q5 m b p else m) (YE (λ_=>Qa _) (λ_=>Qa _)) (Qa _)
    .rw[Qfu];cases decide (0<p)<;>rfl
 exact(loop r1.2 r2.1 0 j rfl rfl (X3 _)).ev
theorem Qd5:∀(g ps:List Int),(zipP g ps).length<=g.length
 |[],_=>by simp[zipP]
 |b::g,[]=>by simp[zipP]
 |b::g,p::ps=>by
  have:=Qd5 g ps;unfold zipP;cases decide (0<p)<;>simp<;>omega
theorem Qex:∀(l a:List Payment),(l.foldl insQ a).length=a.length+l.length
 |[],a=>by simp
 |p::l,a=>by
  rw[XL,Qex l];unfold insQ;rw[Qhm,X9];omega
theorem QnF{b:List Int×List Int}{r:List Int×Int}(y:b.1.length=r.1.length)(w:b.1.length<=6)(d:List Payment)(h0:d.length<=1000):Ev (λn=>iter (F_jd n b r) n (d,0)) ((zipP b.1 r.1).foldl insQ d):=by
 have loop:∀(g a:List Int) (i:Nat) (m:List Payment),b.1.drop i=g->r.1.drop i=a->i<=b.1.length->m.length<=1000+i->EvI (λn=>F_jd n b r) (m,(i:Int)) ((zipP g a).foldl insQ m):=by
  intro g
  induction g with
  |nil=>
   intro a i m l h q u;refine Ej ?_;unfold F_jd;simp only[QU l q,cond_false];exact Qa _
  |cons x g s=>
   intro a i m l h q u;obtain⟨e,j⟩:=Qp (by omega) l;have k:=e.lt';cases a with
   |nil=>have:=Xu.1 h;omega
   |cons p a=>
    obtain⟨t,f⟩:=Qp (by omega) h;refine Ew (s':=((bif decide (0<p)then insP {Bib:=x,Amount:=p} m else m),((i+1:Nat):Int))) ?_ ((s a (i+1) _ j f k ?_).eq ?_)
    .unfold F_jd;simp only[e.lt,cond_true,e.ix,XR,e.nx,t.ix];refine Ea (v:=bif decide (0<p)then insP {Bib:=x,Amount:=p} m else m) (YE (λ_=>Ea (QnH m _ (by omega)) (Qa _)) (λ_=>Qa _)) (Qa _)
    .cases decide (0<p)with
     |true=>rw[cond_true,Qhm];omega
     |false=>rw[cond_false];omega
    .rw[Qfu];cases decide (0<p)<;>rfl
 exact(loop b.1 r.1 0 d rfl rfl (X3 _) (by omega)).ev
def inPL(c:Course)(d q:Int)(f:Field)(h:History):List Int->List Payment->Option (List Payment)
 |[],acc=>some acc
 |k::ks,acc=>match grpPay c d q f h k with
  |none=>none
  |some l=>inPL c d q f h ks (acc++l)
theorem Qhn{f:Field}{h:History}{k:Int}(a:k∈ksG f h f.Runners.length):1<=(grpL f h f.Runners.length k).length/\1<=k/\k<=(f.Runners.length:Int):=by
 unfold ksG at a;obtain⟨g,b⟩:=Xe.1 a;obtain⟨j,d,rfl⟩:=Xf.1 g;have d:=List.mem_range.1 d;refine⟨?_,by unfold rkN;omega,by unfold rkN;omega⟩;cases e:grpL f h f.Runners.length (rkN j)with
 |nil=>rw[e]at b;cases b
 |cons x l=>simp
theorem QhD(c:Course)(g:PrizesOk c)(d q:Int){f:Field}(o:FieldOk f)(h:History):∀(e:List Int) (a:List Payment),(∀k∈e,k∈ksG f h f.Runners.length)->
  Ev (λn=>Qcw (F_co n (amtF c d q)) (e.map λk=>(k,grpL f h f.Runners.length k)) (a.foldl msetP [])) (match inPL c d q f h e a with|none=>.done ([],300)|some l=>.cont (l.foldl msetP []))
 |[],a,_=>Qa _
 |k::e,a,hks=>by
  have hr:=o.few.runs;obtain⟨g1,g2,g3⟩:=Qhn (hks k (by simp));have g4:=QbJ f h f.Runners.length k;have hprz:Ev (λn=>iter (F_kd n (amtF c d q) (k,grpL f h f.Runners.length k)) n ([],0)) (prz c d q k (grpL f h f.Runners.length k).length):=by
   refine Ex (λi=>(prz c d q k i,(i:Int))) (grpL f h f.Runners.length k).length rfl (λi m=>?_) ?_
   .unfold F_kd;simp only[ltN m,cond_true,XR,Yb (show i<=1048576 by omega),QaF (show(prz c d q k i).length<=140737488 by rw[QbT];omega)];refine(Qa _).eq ?_;rw[Qu (n:=k+(i:Int)) (by omega) (by omega),Qn3 g,Qha]
   .unfold F_kd;simp only[geN (X2 _),cond_false];exact Qa _
  rw[Vs];unfold inPL grpPay;rcases Qjc g d q k (grpL f h f.Runners.length k).length with⟨s,b,j,_⟩|b
  .have step:Ev (λn=>F_co n (amtF c d q) (a.foldl msetP []) (k,grpL f h f.Runners.length k)) (.cont ((a++zipP (grpL f h f.Runners.length k) (splN s (grpL f h f.Runners.length k).length)).foldl msetP [])):=by
    unfold F_co;refine Ea hprz (Ea ((Qmx _ (by rw[QbT];omega)).eq b) ?_);simp only[bne_self_eq_false,cond_false];refine Ea (Qo6 g1 (by omega)) (Ea (Qmy s _ g1 (by omega) j) ?_);simp only[bne_self_eq_false,cond_false];refine Ea (QnG (r1:=(k,grpL f h f.Runners.length k)) (r2:=(splN s (grpL f h f.Runners.length k).length,0)) (by unfold splN;rw[Y4]) (by simp only;omega) _) ?_;rw[XK];exact Qa _
   rw[b];simp only[bne_self_eq_false,cond_false,Int.toNat_natCast];exact Ea step (QhD c g d q o h e _ λx p=>hks x (Ve _ p))
  .have step:Ev (λn=>F_co n (amtF c d q) (a.foldl msetP []) (k,grpL f h f.Runners.length k)) (.done ([],300)):=by
    unfold F_co;refine Ea hprz (Ea ((Qmx _ (by rw[QbT];omega)).eq b) ?_);exact Qa _
   rw[b];exact Ea step (Qa _)
structure SameP (m:MapI) (l:List Payment):Prop where
 nd:(m.map Prod.fst).Nodup
 st:l.Pairwise ltB
 get:∀b v,YV m b=some v↔({Bib:=b,Amount:=v}:Payment)∈l
theorem Qlp{m:MapI}{l:List Payment}(s:SameP m l)(p:Payment)(a:∀x∈l,x.Bib≠p.Bib):SameP (msetP m p) (insQ l p):=by
 refine⟨Qeq _ _ s.nd,Qdx p l s.st a,λb v=>?_⟩;unfold msetP insQ;rw[Qdd,QcH];by_cases e:b=p.Bib
 .subst e;rw[if_pos rfl];constructor
  .intro h;left;rw[<- X8 h]
  .rintro(h|h)
   .rw[<- h]
   .exact(a _ h rfl).elim
 .rw[if_neg e,s.get];constructor
  .exact .inr
  .rintro(h|h)
   .exact(e (by rw[<- h])).elim
   .exact h
theorem Qg4:∀(L:List Payment) (m:MapI) (l:List Payment),SameP m l->(L.map (·.Bib)).Nodup->(∀x∈l,∀p∈L,x.Bib≠p.Bib)->SameP (L.foldl msetP m) (L.foldl insQ l)
 |[],m,l,s,_,_=>s
 |p::L,m,l,s,hn,hd=>by
  rw[Vs,List.nodup_cons]at hn;refine Qg4 L _ _ (Qlp s p λx hx=>hd x hx p (by simp)) hn.2 λx hx q hq=>?_;unfold insQ at hx;rcases(QcH p x l).1 hx with rfl|hx
  .intro e;exact hn.1 (Xf.2 ⟨q,hq,e.symm⟩)
  .exact hd x hx q (Ve _ hq)
theorem QoS{m:MapI}{l:List Payment}(s:SameP m l):payP m=l:=by
 refine Qfw (lt:=ltB) (λa b h=>by unfold ltB at*;omega) ?_ s.st λp=>?_
 .unfold payP ordP;rw[List.map_map];exact List.Pairwise.map _ (λa b h=>h) (Qnv s.nd)
 .have e:∀b v,YV m b=some v->QI m b 0=v:=by intro b v h;unfold QI;rw[h];rfl
  unfold payP ordP;simp only[Xf];constructor
  .rintro⟨_,⟨b,f,rfl⟩,rfl⟩;obtain⟨v,d⟩:=(Qhi m b).1 ((QS ltI _).mem_iff.1 f);have:=(s.get b v).1 d;rw[e b v d];exact this
  .intro g;have d:=(s.get p.Bib p.Amount).2 g;exact⟨(p.Bib,p.Amount),⟨p.Bib,(QS ltI _).mem_iff.2 ((Qhi m _).2 ⟨_,d⟩),by rw[e _ _ d]⟩,rfl⟩
theorem QlN{L:List Payment}(h:(L.map (·.Bib)).Nodup):payP (L.foldl msetP [])=srtP L:=
 QoS (Qg4 L [] [] ⟨List.nodup_nil,List.Pairwise.nil,λb v=>⟨(λh=>by cases h),λh=>by cases h⟩⟩ h λx hx=>by cases hx)
theorem QgX:∀(g ps:List Int),((zipP g ps).map (·.Bib)).Sublist g
 |[],ps=>by simp[zipP]
 |b::g,[]=>by simp[zipP]
 |b::g,p::ps=>by
  have:=QgX g ps;unfold zipP;cases decide (0<p)with
  |true=>exact this.cons_cons b
  |false=>exact this.cons b
theorem Qho{f:Field}{h:History}{k b:Int}(a:b∈grpL f h f.Runners.length k):∃i,i<f.Runners.length/\((rankG f h i:Nat):Int)=k/\bibF f i=b:=by
 unfold grpL at a;obtain⟨i,g,e⟩:=Xf.1 a;obtain⟨d,j⟩:=Xe.1 g;exact⟨i,by simpa using d,by simpa[inG]using j,e⟩
theorem QhW{f:Field}(o:FieldOk f){i j:Nat}(hi:i<f.Runners.length)(a:j<f.Runners.length)(e:bibF f i=bibF f j):i=j:=by
 rw[QdZ hi,QdZ a]at e;exact QnY o hi a e
theorem Qdb{α β:Type}{g:α->β}:∀{l:List α},(∀x∈l,∀y∈l,g x=g y->x=y)->l.Nodup->(l.map g).Nodup
 |[],_,_=>List.nodup_nil
 |x::l,h,hn=>by
  rw[List.nodup_cons]at hn;rw[Vs,List.nodup_cons];refine⟨λhm=>?_,Qdb (λa ha b hb=>h a (Ve _ ha) b (Ve _ hb)) hn.2⟩;obtain⟨y,hy,e⟩:=Xf.1 hm;have:=h y (Ve _ hy) x (Vd ..) e;subst this;exact hn.1 hy
theorem Qiq{f:Field}(o:FieldOk f)(h:History)(k:Int):(grpL f h f.Runners.length k).Nodup:=by
 unfold grpL;refine Qdb (λx a y b e=>?_) (List.nodup_range.sublist List.filter_sublist);exact QhW o (by simpa using(Xe.1 a).1) (by simpa using(Xe.1 b).1) e
theorem QeA(c:Course)(d q:Int){f:Field}(o:FieldOk f)(h:History):∀(n:List Int) (acc L:List Payment),n.Nodup->(acc.map (·.Bib)).Nodup->(∀p∈acc,∀k∈n,p.Bib∉grpL f h f.Runners.length k)->inPL c d q f h n acc=some L->(L.map (·.Bib)).Nodup
 |[],acc,L,_,ha,_,e=>by
  obtain rfl:=X8 e;exact ha
 |k::n,acc,L,hk,ha,hd,e=>by
  unfold inPL at e;rw[List.nodup_cons]at hk;cases hg:grpPay c d q f h k with
  |none=>rw[hg]at e;cases e
  |some l=>
   rw[hg]at e;have hl:∃ps,l=zipP (grpL f h f.Runners.length k) ps:=by
    unfold grpPay at hg;cases z:((sumP (prz c d q k (grpL f h f.Runners.length k).length)).2 != 0)with
    |true=>rw[z]at hg;cases hg
    |false=>rw[z]at hg;exact⟨_,(X8 hg).symm⟩
   obtain⟨ps,rfl⟩:=hl;have g:=QgX (grpL f h f.Runners.length k) ps;refine QeA c d q o h n _ L hk.2 ?_ ?_ e
   .rw[Xg];refine List.nodup_append.2 ⟨ha,(Qiq o h k).sublist g,?_⟩;intro a s b t F;subst F;obtain⟨p,m,rfl⟩:=Xf.1 s;exact hd p m k (by simp) (g.subset t)
   .intro p m H r;rcases List.mem_append.1 m with m|m
    .exact hd p m H (Ve _ r)
    .intro B;obtain⟨i,w,x,u⟩:=Qho (g.subset (Xf.2 ⟨p,m,rfl⟩));obtain⟨j,y,G,E⟩:=Qho B;have:=QhW o w y (u.trans E.symm);subst this;exact hk.1 (by rw[<- x,G];exact r)
theorem Qj8(f:Field)(h:History)(n:Nat):(ksG f h n).Nodup:=by
 unfold ksG;refine List.Nodup.sublist List.filter_sublist (Qdb (λx _ y _ e=>?_) List.nodup_range);unfold rkN at e;omega
def inV(e:Int)(c:Course)(f:Field)(d q:Int)(h:History):List Payment×Int:=
 bif checkV e c f d q != 0 then([],checkV e c f d q)else bif !admB f h then([],260)else match inPL c d q f h (ksG f h f.Runners.length) []with
  |none=>([],300)
  |some L=>(srtP L,0)
theorem QeB(c:Course)(d q:Int){f:Field}(h:History):∀(a:List Int) (acc L:List Payment),inPL c d q f h a acc=some L->L.length<=acc.length+a.length*f.Runners.length
 |[],acc,L,e=>by obtain rfl:=X8 e;simp
 |k::a,acc,L,e=>by
  unfold inPL at e;cases hg:grpPay c d q f h k with
  |none=>rw[hg]at e;cases e
  |some l=>
   rw[hg]at e;have hl:l.length<=f.Runners.length:=by
    unfold grpPay at hg;cases z:((sumP (prz c d q k (grpL f h f.Runners.length k).length)).2 != 0)with
    |true=>rw[z]at hg;cases hg
    |false=>
     rw[z]at hg;obtain rfl:=X8 hg;exact X4 (Qd5 _ _) (QbJ ..)
   have:=QeB c d q h a _ L e;rw[Vb]at this;rw[X9,Xn];omega
theorem Qjg(f:Field)(h:History)(n:Nat):(ksG f h n).length<=n:=by
 unfold ksG;exact X4 (List.length_filter_le ..) (by simp)
theorem QfJ:∀(L:List Payment) (m:MapI),(L.foldl msetP m).length<=m.length+L.length
 |[],m=>by simp
 |p::L,m=>by
  have h1:=QfJ L (msetP m p);have h2:(msetP m p).length<=m.length+1:=Qhh _ _ _;rw[XL,X9];omega
theorem Qe1{e:Int}{c:Course}{f:Field}{d k:Int}(a:(checkV e c f d k != 0)=false):(e != 0)=false:=by
 unfold checkV at a;cases z:(e != 0)with
 |false=>rfl
 |true=>rw[z]at a;simp only[cond_true]at a;rw[z]at a;exact a
theorem ev_In(c:Course)(f:Field)(d q e:Int)(h:History)(he:Ev (λn=>F_w n c) e)(g:FewF f)(i:c.Prizes.length<=1048576)(j:(e != 0)=false->PrizesOk c):Ev (λn=>F_be n c f d q h) (inV e c f d q h):=by
 have w:=g.runs;unfold F_be inV;refine Ea (Qki c f d q e he g) ?_;cases a:(checkV e c f d q != 0)with
 |true=>exact Qa _
 |false=>
  have o:=Qfm g (QdE a);have j:=j (Qe1 a);refine QK (Ea (Qkm o h) ?_);cases y:admB f h with
  |false=>exact Qa _
  |true=>
   simp only[cond_true,bne_self_eq_false,cond_false,Xh];refine Ea (v:=Ctl.cont (lift (grpM f h f.Runners.length))) ?_ ?_
   .refine Ex (λm=>(lift (grpM f h m),(m:Int))) f.Runners.length rfl (λm b=>?_) ?_
    .have z:=QbJ f h m ((rankG f h m:Nat):Int);unfold F_mb;simp only[ltN b,cond_true,Qq (XS b),XR,Yb (show m<=1048576 by omega)];refine Ea (Qmq o y b) ?_;simp only[bne_self_eq_false,cond_false,Qin,XR];refine Ea (v:=lift (grpM f h (m+1))) ?_ (Qa _);rw[Qa3];unfold grpS;by_cases l:0<((rankG f h m:Nat):Int)
     .rw[QN l,Qgu f h l,QdZ b];simp only[cond_true,QaF (show(grpL f h m ((rankG f h m:Nat):Int)).length<=140737488 by omega),XR,Qlu];exact Qa _
     .rw[QD l];exact Qa _
    .unfold F_mb;simp only[geN (X2 _),cond_false];exact Qa _
   .refine Ea (QiE c d q i) ?_;unfold F_fz;simp only[XR,Qep];have u:=Qjk f h f.Runners.length;refine Ea (QgF _ (by omega)) ?_;rw[Qnw];have t:(ksG f h f.Runners.length).map (λk=>(k,QI (grpM f h f.Runners.length) k []))=(ksG f h f.Runners.length).map λk=>(k,grpL f h f.Runners.length k):=
     List.map_congr_left λk a=>by rw[Qgu f h (by have:=(Qhn a).2.1;omega)]
    simp only[t];refine Ea (QhD c j d q o h (ksG f h f.Runners.length) [] λk a=>a) ?_;cases r:inPL c d q f h (ksG f h f.Runners.length) []with
    |none=>exact Qa _
    |some L=>
     have s:=QeB c d q h _ _ L r;have E:=Qjg f h f.Runners.length;have x:=QfJ L [];have B:(ksG f h f.Runners.length).length*f.Runners.length<=6*6:=Nat.mul_le_mul (by omega) w;simp only[List.length_nil]at s x;refine Ea (QhI _ (by omega)) ?_;rw[QlN (QeA c d q o h _ [] L (Qj8 ..) List.nodup_nil (λp i=>by cases i) r)];exact Qa _
theorem Qmj(c:Course)(f:Field)(d q e:Int)(h:History)(he:Ev (λn=>F_ad n c) e)(M:FewF f)(Y:c.Prizes.length<=1048576)(P:(e != 0)=false->PrizesOk c):Ev (λn=>F_cp n c f d q h) (inV e c f d q h):=by
 have hr:=M.runs;unfold F_cp inV;refine Ea (Qkg c f d q e he M) ?_;cases Q:(checkV e c f d q != 0)with
 |true=>exact Qa _
 |false=>
  have o:=Qfm M (QdE Q);have P:=P (Qe1 Q);refine QK (Ea (Qiu o h) ?_);cases ha:admB f h with
  |false=>exact Qa _
  |true=>
   have a:=Qng ha;simp only[cond_true,bne_self_eq_false,cond_false,Xh];have p:∀(j:Nat) (F:List Payment),Ev (λn=>iter (F_lo n f h (F,rkN j)) n (([]:List Int),([]:List Int),0)) (grpL f h f.Runners.length (rkN j),List.replicate (grpL f h f.Runners.length (rkN j)).length 1):=by
    intro j F;refine Ex (λi=>(grpL f h i (rkN j),List.replicate (grpL f h i (rkN j)).length 1,(i:Int))) f.Runners.length rfl (λi y=>?_) ?_
    .have hl:=QbJ f h i (rkN j);unfold F_lo;simp only[ltN y,cond_true,Qq (XS y),XR,Yb (show i<=1048576 by omega)];refine Ea (Qmk o a y) ?_;have u:app (grpL f h i (rkN j)) [(f.Runners[i]).Bib]=some (grpL f h i (rkN j)++[(f.Runners[i]).Bib]):=QaF (by omega);have O:app (List.replicate (grpL f h i (rkN j)).length (1:Int)) [1]=some (List.replicate (grpL f h i (rkN j)).length 1++[1]):=QaF (by simp;omega);simp only[u,O,XR];rw[Qdh,QdZ y];show Ev (λn=>(bif inG f h (rkN j) i then _ else _:Option _).bind _) _;cases inG f h (rkN j) i with
     |true=>
      refine(Qa _).eq ?_;simp[List.replicate_succ']
     |false=>
      refine(Qa _).eq ?_;simp
    .unfold F_lo;simp only[geN (X2 _),cond_false];exact Qa _
   have loop:∀(m j:Nat) (g:List Payment),j+m=f.Runners.length->g.length<=6*j->EvI (λn=>F_ce n c f d q h) (srtP g,rkN j) (match inPL c d q f h (((List.range' j m).map rkN).filter λk=> !(grpL f h f.Runners.length k).isEmpty) g with|none=>.done ([],300)|some L=>.cont (srtP L)):=by
    intro m
    induction m with
    |zero=>
     intro j g T G;refine Ej ?_;unfold F_ce;simp only[QD (show¬rkN j<=(f.Runners.length:Int)by unfold rkN;omega),cond_false];exact Qa _
    |succ m R=>
     intro j g T G;have aa:j<f.Runners.length:=by omega
     have E:IntKind.i64.wrap (rkN j+1)=rkN (j+1):=by unfold rkN;rw[Yb (by omega)]
     have w:decide (rkN j<=(f.Runners.length:Int))=true:=decide_eq_true (by unfold rkN;omega);have W:=QbJ f h f.Runners.length (rkN j);rw[List.range'_succ,Vs,Xd];cases N:(grpL f h f.Runners.length (rkN j)).isEmpty with
     |true=>
      have H:(((grpL f h f.Runners.length (rkN j)).length:Int)==0)=true:=by rw[List.isEmpty_iff.1 N];rfl
      simp only[Xh,Xj,if_false];refine Ew (s':=(srtP g,rkN (j+1))) ?_ (R (j+1) g (by omega) (by omega));unfold F_ce;simp only[w,cond_true];refine Ea (v:=Ctl.cont (srtP g)) (Ea (p j (srtP g)) ?_) ?_
      .simp only[H,cond_true];exact Qa _
      .rw[E];exact Qa _
     |false=>
      have B:1<=(grpL f h f.Runners.length (rkN j)).length:=by
       cases z:grpL f h f.Runners.length (rkN j)with
       |nil=>rw[z]at N;cases N
       |cons x l=>simp
      have H:(((grpL f h f.Runners.length (rkN j)).length:Int)==0)=false:=beq_false_of_ne (by omega);simp only[Xi,if_true];unfold inPL grpPay;have X:1<=rkN j/\rkN j<=6:=by unfold rkN;omega
      have t:Ev (λn=>iter (F_ks n c d q (srtP g,rkN j) (grpL f h f.Runners.length (rkN j),List.replicate (grpL f h f.Runners.length (rkN j)).length 1)) n (([]:List Int),0)) (prz c d q (rkN j) (grpL f h f.Runners.length (rkN j)).length):=by
       refine Ex (λi=>(prz c d q (rkN j) i,(i:Int))) (grpL f h f.Runners.length (rkN j)).length rfl (λi y=>?_) ?_
       .unfold F_ks;simp only[ltN y,cond_true,Yb (show i<=1048576 by omega)];rw[Qu (n:=rkN j+(i:Int)) (by omega) (by omega)];refine Ea (QgC c d q _ Y) ?_;rw[QaF (show(prz c d q (rkN j) i).length<=140737488 by rw[QbT];omega),Qha];exact Qa _
       .unfold F_ks;simp only[geN (X2 _),cond_false];exact Qa _
      rcases Qjc P d q (rkN j) (grpL f h f.Runners.length (rkN j)).length with⟨s,u,O,_⟩|u
      .rw[u];simp only[bne_self_eq_false,cond_false,Int.toNat_natCast];have V:=Qd5 (grpL f h f.Runners.length (rkN j)) (splN s (grpL f h f.Runners.length (rkN j)).length);refine Ew (s':=(srtP (g++zipP (grpL f h f.Runners.length (rkN j)) (splN s (grpL f h f.Runners.length (rkN j)).length)),rkN (j+1))) ?_ (R (j+1) _ (by omega) (by rw[Vb];omega));unfold F_ce;simp only[w,cond_true];refine Ea (v:=Ctl.cont (srtP (g++zipP (grpL f h f.Runners.length (rkN j)) (splN s (grpL f h f.Runners.length (rkN j)).length)))) (Ea (p j (srtP g)) ?_) ?_
       .simp only[H,cond_false];refine Ea t (Ea ((Qjt _ (by rw[QbT];omega)).eq u) ?_);simp only[bne_self_eq_false,cond_false];refine Ea (Qkh s _ B (by omega) O) ?_;simp only[bne_self_eq_false,cond_false];have J:(srtP g).length<=1000:=by unfold srtP;rw[Qex];simp;omega
        refine Ea (QnF (b:=(grpL f h f.Runners.length (rkN j),List.replicate (grpL f h f.Runners.length (rkN j)).length 1)) (r:=(splN s (grpL f h f.Runners.length (rkN j)).length,0)) (by unfold splN;rw[Y4]) (by simp only;omega) _ J) ?_;unfold srtP;rw[XK];exact Qa _
       .rw[E];exact Qa _
      .rw[u];refine Ej ?_;unfold F_ce;simp only[w,cond_true];refine Ea (v:=Ctl.done (Ctl.done (Ctl.done ([],300)))) (Ea (p j (srtP g)) ?_) (Qa _);simp only[H,cond_false];refine Ea t (Ea ((Qjt _ (by rw[QbT];omega)).eq u) ?_);exact Qa _
   have:=loop f.Runners.length 0 [] (by omega) (by simp);rw[<- List.range_eq_range']at this;refine Ea this.ev ?_;show Ev _ (match inPL c d q f h (ksG f h f.Runners.length) []with|none=>_|some L=>_);unfold ksG;cases inPL c d q f h (((List.range f.Runners.length).map rkN).filter λk=> !(grpL f h f.Runners.length k).isEmpty) []<;>exact Qa _
theorem Qms(h:History):Ev (λn=>F_cn n h) (decide ((h.Offsets.length:Int)<=20)&&decide ((h.Choices.length:Int)<=20)):=by
 unfold F_cn;exact Ea (Ei λ_=>Qa _) (Qa _)
theorem Qny(e:Int)(c:Course)(f:Field)(g:FewF f)(d q:Int)(h:History):(inV e c f d q h).1.length<=36:=by
 have i:=g.runs;unfold inV;cases checkV e c f d q != 0 with
 |true=>simp
 |false=>
  cases admB f h with
  |false=>simp
  |true=>
   simp only[cond_false,Xh];cases b:inPL c d q f h (ksG f h f.Runners.length) []with
   |none=>simp
   |some L=>
    have a:=QeB c d q h _ _ L b;have k:=Qjg f h f.Runners.length;have j:(ksG f h f.Runners.length).length*f.Runners.length<=6*6:=Nat.mul_le_mul (by omega) i;simp only[List.length_nil]at a;simp only;unfold srtP;rw[Qex];simp;omega
theorem law_PrizesInSpec(c:Course)(f:Field)(d k:Int)(h:History)(l:Course.wf c)(u:Field.wf f)(H:QF .i64 d)(E:QF .i64 k)(F:History.wf h):∃n,F_gh n c f d k h=some true:=by
 have w:=Qid l;have q:=QiT l;obtain⟨g,i⟩:=Qnj l;obtain⟨r,s,y⟩:=Qke c w q g i;obtain⟨x,t,B⟩:=few25 f u;refine Ev.ex ?_;unfold F_gh;refine Ea (EA Qov) ?_;simp only[Xh,cond_false];refine Ea (v:= !r||(!x|| !(decide ((h.Offsets.length:Int)<=20)&&decide ((h.Choices.length:Int)<=20)))) (Ea s (Qf λ_=>Ea t (Qf λ_=>Ea (Qms h) (Qa _)))) ?_;refine Qpk (λ_=>Qa _) λj=>?_;simp only[X6,Bool.not_eq_false']at j;have fl:=y j.1;have ff:=B j.2.1;have a:=w.prize;obtain⟨e,b,m⟩:=QhS c w q fl g i;have p:(e != 0)=false->PrizesOk c:=λz=>QhZ (QhR c w q fl g i b z);refine Ea (ev_In c f d k e h b ff a p) ?_;refine Ea (Qmj c f d k e h m ff a p) ?_;have G:=Qny e c f ff d k h;refine Ea (v:=true) ?_ (Qa _);refine Ea (Qmc _ (by omega)) ?_;simp only[cond_true,beq_self_eq_true];exact Qa _
end Go.Sw
