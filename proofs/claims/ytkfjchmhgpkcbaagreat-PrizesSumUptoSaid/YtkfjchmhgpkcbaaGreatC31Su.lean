/- PrizesSum: what is paid in a history is what the prizes of the ranks that are taken are worth. -/
import Derived.Test.YtkfjchmhgpkcbaaGreatQ31Su
set_option linter.unusedVariables false
set_option linter.unusedSimpArgs false
namespace Go.Sw
theorem QgO{α:Type}{l:List α}{i:Nat}(a:i<l.length)(x:α):Qbs l (i:Int) x=some (l.set i x):=by
 unfold Qbs;have:(decide (0<=(i:Int))&&decide ((i:Int)<(l.length:Int)))=true:=by
  rw[X4];exact⟨decide_eq_true (by omega),decide_eq_true (by omega)⟩
 rw[this,cond_true,Int.toNat_natCast]
def OkT(f:Field)(l:List PrI):Prop:=∀p∈l,∃k:Nat,k<f.Runners.length/\p.first=(k:Int)
theorem Qnu{f:Field}(o:FieldOk f)(h:History){p q:PrI}(r:∃k:Nat,k<f.Runners.length/\p.first=(k:Int))(m:∃k:Nat,k<f.Runners.length/\q.first=(k:Int)):
  ∃c,Ev (λn=>F_x n ({f:=f,h:=h:history_view}) p q) c:=by
 obtain⟨i,l,a⟩:=r;obtain⟨j,g,b⟩:=m;cases p with
 |mk t d=>
 cases q with
 |mk s e=>
 simp only at a b;subst a b;exact⟨_,Qji o l g h d e⟩
theorem OkT.set{f:Field}{l:List PrI}(h:OkT f l){x:PrI}(a:∃k:Nat,k<f.Runners.length/\x.first=(k:Int))(i:Nat):OkT f (l.set i x):=by
 intro p b;rcases List.mem_or_eq_of_mem_set b with q|rfl
 .exact h p q
 .exact a
theorem Qjg{f:Field}(o:FieldOk f)(h:History)(m:List PrI)(t:Int):∀(j:Nat) (l:List PrI),j<l.length->l.length<=6->OkT f l->
  ∃l',EvI (λn=>F_hg n 0 (m,({f:=f,h:=h:history_view}),t)) (l,(j:Int)) l'/\l'.length=l.length/\OkT f l'
 |0,l,hj,h6,hl=>by
  refine⟨l,Ej ?_,rfl,hl⟩;unfold F_hg;exact Ea (v:=false) (Qa _) (Qa _)
 |j+1,l,hj,h6,hl=>by
  have hj0:j<l.length:=by omega
  have k:=hl _ (Vl hj);have s:=hl _ (Vl hj0);obtain⟨c,w⟩:=Qnu o h k s;have q:IntKind.i64.wrap (((j+1:Nat):Int)-1)=((j:Nat):Int):=by rw[QO (by omega) (by omega)];omega
  have r:=Qq (XR hj);have a:=Qq (XR hj0);have d:Ev (λn=>((bif decide ((0:Int)<((j+1:Nat):Int))then(idx l ((j+1:Nat):Int)).bind λg=>(idx l (IntKind.i64.wrap (((j+1:Nat):Int)-1))).bind λb=>(F_x n ({f:=f,h:=h:history_view}) g b).bind λe=>some (decide (e<0))else some false):Option Bool)) (decide (c<0)):=by
   rw[Yh (show(0:Int)<((j+1:Nat):Int)by omega),q,r,a];simp only[cond_true,XQ];exact Ea w (Qa _)
  cases i:decide (c<0)with
  |false=>
   refine⟨l,Ej ?_,rfl,hl⟩;unfold F_hg;exact Ea (d.eq i) (Qa _)
  |true=>
   have p:j<(l.set (j+1) l[j]).length:=by simpa using hj0
   obtain⟨l',x,y,u⟩:=Qjg o h m t j ((l.set (j+1) l[j]).set j l[j+1]) (by simpa using hj0) (by simpa using h6) ((hl.set s (j+1)).set k j);refine⟨l',Eu ?_ x,by simpa using y,u⟩;unfold F_hg;refine Ea (d.eq i) ?_;simp only[cond_true,q,r,a,XQ,QgO hj,Qq (XR p),QgO p];exact Qa _
theorem Qjh{f:Field}(o:FieldOk f)(h:History)(m:Nat)(hm:m<=6):∀(k i:Nat) (l:List PrI),m<=i+k->l.length=m->OkT f l->
  ∃l',EvI (λn=>F_ei n 0 (m:Int)) (l,({f:=f,h:=h:history_view}),(i:Int)) l'/\l'.length=m/\OkT f l'
 |0,i,l,hk,hl,ho=>by
  refine⟨l,Ej ?_,hl,ho⟩;unfold F_ei;simp only[geN (show m<=i by omega),cond_false];exact Qa _
 |k+1,i,l,hk,hl,ho=>by
  by_cases hi:i<m
  .obtain⟨l1,g1,g2,g3⟩:=Qjg o h l (i:Int) i l (by omega) (by omega) ho;obtain⟨l2,g4,g5,g6⟩:=Qjh o h m hm k (i+1) l1 (by omega) (by omega) g3;refine⟨l2,Eu ?_ g4,g5,g6⟩;unfold F_ei;simp only[ltN hi,cond_true,Q5 (show i<=1048576 by omega)];exact Ea g1.ev (Qa _)
  .refine⟨l,Ej ?_,hl,ho⟩;unfold F_ei;simp only[geN (show m<=i by omega),cond_false];exact Qa _
theorem QlI{α:Type}{l r:List α}(h:l.length=r.length):Qcs l (some r)=some r:=by
 show(bif Nat.beq l.length r.length then some r else none)=some r;rw[h,Nat.beq_refl];rfl
theorem Ev.keep{α:Type}{l r:List α}{g:Nat->Option (List α)}(h:Ev g r)(b:l.length=r.length):Ev (λn=>Qcs l (g n)) r:=by
 obtain⟨N,h⟩:=h;exact⟨N,λn a=>by show Qcs l (g n)=some r;rw[h n a,QlI b]⟩
theorem Qj0{f:Field}(o:FieldOk f)(h:History){l:List PrI}(d:l.length<=6)(e:OkT f l):∃l',Ev (λn=>F_cm n l ({f:=f,h:=h:history_view})) l'/\l'.length=l.length:=by
 obtain⟨l',b,a,_⟩:=Qjh o h l.length d l.length 1 l (by omega) rfl e;refine⟨l',?_,a⟩;unfold F_cm;refine Ea (Ev.keep ?_ a.symm) (Qa _);unfold F_gp;rw[Yh (show(l.length:Int)<20 by omega)];refine QhV (Ea (Ev.keep ?_ a.symm) (Qa _));unfold F_gy;exact Ea b.ev (Qa _)
theorem Qme{f:Field}(o:FieldOk f){h:History}(j:admB f h=true):∃l,Ev (λn=>F_ch n f h) (l,0)/\l.length=(timesL f h f.Runners.length).length:=by
 have a:=QiH j;have u:=o.few.runs;have w:=Qa5 f h f.Runners.length;obtain⟨g,r,q⟩:=Qj0 o h (l:=timesL f h f.Runners.length) (by omega) λp s=>by
  obtain⟨k,t,e⟩:=Qfb s;exact⟨k,t,by rw[e]⟩
 refine⟨g.map (·.first),?_,by rw[X9];exact q⟩;unfold F_ch;refine Ea (v:=(({f:=f,h:=h:history_view}),0)) ((Qgk o h).eq (by rw[j];rfl)) ?_;simp only[bne_self_eq_false,cond_false];refine Ea (Qho o a) (Ea (Ev.keep r q.symm) ?_);refine Ea (QnQ (step:=λn=>F_ho n g) g (·.first) (by omega) (λi x d b m=>?_) λd=>?_) (Qa _)
 .have:=b.lt';unfold F_ho;simp only[b.lt,cond_true,b.ix,XQ,b.nx,Qbc (show d.length<=140737488 by omega)];exact Qa _
 .unfold F_ho;simp only[YR,cond_false];exact Qa _
theorem Qmn(a b:Int):cmpI a b<0↔a<b:=by
 unfold cmpI;by_cases d:a<b
 .simp[d]
 .by_cases e:b<a<;>simp[d,e]
theorem QnB(a b:Int):(cmpI a b != 0)=(a != b):=by
 unfold cmpI;rcases Int.lt_trichotomy a b with q|q|q
 .have:a≠b:=by omega
  simp[q,this]
 .subst q;simp
 .have e:¬a<b:=by omega
  have d:a≠b:=by omega
  simp[q,e,d]
theorem Qjp(x y:Int)(a b:List Int):cmpL (x::a) (y::b)<0↔x<y\/x=y/\cmpL a b<0:=by
 rw[show cmpL (x::a) (y::b)=bif cmpI x y != 0 then cmpI x y else cmpL a b from rfl,QnB];by_cases e:x=y
 .subst e;simp
 .have:(x != y)=true:=by simpa[bne]using e
  rw[this,cond_true,Qmn];omega
theorem QeI:∀a b c:List Int,cmpL a b<0->cmpL b c<0->cmpL a c<0
 |[],[],c,h,_=>by simp[cmpL]at h
 |[],y::b,[],_,h=>by simp[cmpL]at h
 |[],y::b,z::c,_,_=>by simp[cmpL]
 |x::a,[],c,h,_=>by simp[cmpL]at h
 |x::a,y::b,[],_,h=>by simp[cmpL]at h
 |x::a,y::b,z::c,h1,h2=>by
  rw[Qjp]at h1 h2⊢;rcases h1 with h1|⟨e1,h1⟩<;>rcases h2 with h2|⟨e2,h2⟩
  .left;omega
  .left;omega
  .left;omega
  .exact .inr ⟨by omega,QeI a b c h1 h2⟩
theorem QhD:∀a b c:List Int,¬cmpL a b<0->¬cmpL b c<0->¬cmpL a c<0
 |[],[],c,_,h=>h
 |[],y::b,c,h,_=>by simp[cmpL]at h
 |x::a,[],[],_,_=>by simp[cmpL]
 |x::a,[],z::c,_,h=>by simp[cmpL]at h
 |x::a,y::b,[],_,_=>by simp[cmpL]
 |x::a,y::b,z::c,h1,h2=>by
  rw[Qjp]at h1 h2⊢;intro h3;have ih:=QhD a b c;rcases h3 with h3|⟨e3,h3⟩
  .omega
  .have e1:x=y:=by omega
   have f:y=z:=by omega
   exact ih (λe=>h1 (.inr ⟨e1,e⟩)) (λd=>h2 (.inr ⟨f,d⟩)) h3
theorem Qo9{f:Field}{h:History}{i k:Nat}:frontG f h i k=true↔(outG f h k).Out=false/\(netG f h k<netG f h i\/netG f h k=netG f h i/\cmpL (keysF f k) (keysF f i)<0):=by
 unfold frontG;cases(outG f h k).Out<;>simp
theorem Qjo{p q:Nat->Bool}:∀{k:Nat},(∀i,i<k->p i=true->q i=true)->(∃i,i<k/\p i=false/\q i=true)->cntR p k<cntR q k
 |0,_,⟨i,hi,_⟩=>absurd hi (Xo _)
 |k+1,h,⟨i,hi,h1,h2⟩=>by
  rw[Yt,Yt];have hk:=h k (by omega);by_cases e:i=k
  .subst e;have:=Qc8 (k:=i) λj hj=>h j (by omega);rw[h1,h2];simp;omega
  .have:=Qjo (k:=k) (λj hj=>h j (by omega)) ⟨i,by omega,h1,h2⟩;cases hp:p k with
   |false=>cases q k<;>simp<;>omega
   |true=>rw[hk hp];simp;omega
theorem QdC{f:Field}{h:History}{i:Nat}(a:(outG f h i).Out=false):rankG f h i=1+cntR (frontG f h i) f.Runners.length:=by unfold rankG;rw[a];rfl
theorem Qeb{f:Field}{h:History}{i:Nat}(a:(outG f h i).Out=true):rankG f h i=0:=by unfold rankG;rw[a];rfl
theorem Qic{f:Field}{h:History}{i k:Nat}(E:i<f.Runners.length)(u:k<f.Runners.length)(t:(outG f h i).Out=false):frontG f h i k=(decide (0<rankG f h k)&&decide (rankG f h k<rankG f h i)):=by
 cases a:(outG f h k).Out with
 |true=>
  rw[Qeb a];unfold frontG;rw[a];simp
 |false=>
  have y:=QdC a;have B:=QdC t;have q:decide (0<rankG f h k)=true:=decide_eq_true (by omega);rw[q,Bool.true_and];cases d:frontG f h i k with
  |true=>
   symm
   refine decide_eq_true ?_;have l:=Qo9.1 d;have:cntR (frontG f h k) f.Runners.length<cntR (frontG f h i) f.Runners.length:=by
    refine Qjo (λj w p=>?_) ⟨k,u,?_,d⟩
    .obtain⟨m,b⟩:=Qo9.1 p;refine Qo9.2 ⟨m,?_⟩;rcases b with b|⟨b,g⟩<;>rcases l.2 with q2|⟨q2,q3⟩
     .left;omega
     .left;omega
     .left;omega
     .exact .inr ⟨by omega,QeI _ _ _ g q3⟩
    .cases z:frontG f h k k with
     |false=>rfl
     |true=>
      have:=(Qo9.1 z).2;rw[Qc9]at this;omega
   omega
  |false=>
   symm
   refine decide_eq_false λx=>?_;have n:¬(netG f h k<netG f h i\/netG f h k=netG f h i/\cmpL (keysF f k) (keysF f i)<0):=λz=>by
    rw[Qo9.2 ⟨a,z⟩]at d;cases d
   have:cntR (frontG f h i) f.Runners.length<=cntR (frontG f h k) f.Runners.length:=by
    refine Qc8 λj w p=>?_;obtain⟨m,b⟩:=Qo9.1 p;refine Qo9.2 ⟨m,?_⟩;rcases b with b|⟨b,g⟩
    .by_cases z:netG f h j<netG f h k
     .exact .inl z
     .exfalso;exact n (by omega)
    .by_cases z:netG f h j<netG f h k
     .exact .inl z
     .have e:netG f h k=netG f h j\/netG f h k<netG f h j:=by omega
      rcases e with e|e
      .refine .inr ⟨e.symm,Classical.byContradiction λs=>?_⟩;exact QhD _ _ _ s (λr=>n (.inr ⟨by omega,r⟩)) g
      .exfalso;exact n (.inl (by omega))
   omega
def cntT(f:Field)(h:History)(t:Nat):Nat:=cntR (λj=>decide (0<rankG f h j)&&decide (rankG f h j<t)) f.Runners.length
theorem Qb8{p q:Nat->Bool}:∀{k:Nat},(∀i,i<k->p i=q i)->cntR p k=cntR q k
 |0,_=>rfl
 |k+1,h=>by rw[Yt,Yt,Qb8 (k:=k) λi hi=>h i (by omega),h k (by omega)]
theorem QhB{p q s:Nat->Bool}:∀{k:Nat},(∀i,i<k->p i=(q i||s i)/\(q i&&s i)=false)->cntR p k=cntR q k+cntR s k
 |0,_=>rfl
 |k+1,h=>by
  rw[Yt,Yt,Yt,QhB (k:=k) λi hi=>h i (by omega)];obtain⟨h1,h2⟩:=h k (by omega);rw[h1];cases hq:q k<;>cases hs:s k<;>simp[hq,hs]at h2⊢ <;>omega
theorem QfI{p:Nat->Bool}:∀{k:Nat},(∀i,i<k->p i=false)->cntR p k=0
 |0,_=>rfl
 |k+1,h=>by rw[Yt,QfI (k:=k) λi hi=>h i (by omega),h k (by omega)];rfl
theorem Qk9{f:Field}{h:History}{i:Nat}(g:i<f.Runners.length)(d:0<rankG f h i):rankG f h i=1+cntT f h (rankG f h i):=by
 have a:(outG f h i).Out=false:=by
  cases q:(outG f h i).Out with
  |true=>rw[Qeb q]at d;omega
  |false=>rfl
 have e:=QdC a;have:cntR (frontG f h i) f.Runners.length=cntT f h (rankG f h i):=Qb8 λk b=>Qic g b a;omega
theorem QlN(f:Field)(h:History)(k:Int):(grpL f h f.Runners.length k).length=cntR (inG f h k) f.Runners.length:=by
 unfold grpL cntR;rw[X9]
theorem Qkd(f:Field)(h:History)(m:Nat):cntT f h (m+2)=cntT f h (m+1)+(grpL f h f.Runners.length (rkN m)).length:=by
 rw[QlN];unfold cntT;refine QhB λi a=>?_;unfold inG rkN;by_cases e:rankG f h i=m+1
 .have:(((rankG f h i:Nat):Int)==((m+1:Nat):Int))=true:=by rw[e];simp
  rw[this,e];simp
 .have:(((rankG f h i:Nat):Int)==((m+1:Nat):Int))=false:=beq_false_of_ne (by omega);rw[this];simp only[Bool.or_false,Bool.and_false,and_true];rw[X6];simp;omega
theorem QjW{f:Field}{h:History}{m:Nat}(hg:0<(grpL f h f.Runners.length (rkN m)).length):cntT f h (m+1)=m:=by
 obtain⟨b,a⟩:=List.exists_mem_of_length_pos hg;obtain⟨i,d,g,_⟩:=Qcv a;have e:rankG f h i=m+1:=by unfold rkN at g;omega
 have:=Qk9 (f:=f) (h:=h) d (by omega);rw[e]at this;omega
theorem Qi0(c:Course)(d q k:Int)(a:Nat):∀b,(prz c d q k (a+b)).sum=(prz c d q k a).sum+(prz c d q (k+(a:Int)) b).sum
 |0=>by simp[prz]
 |b+1=>by
  rw[show a+(b+1)=(a+b)+1 by omega,Qcl,Qcl,List.sum_append,List.sum_append,Qi0 c d q k a b];rw[show k+((a+b:Nat):Int)=k+(a:Int)+(b:Int)by omega];simp only[List.sum_cons,List.sum_nil];omega
def gSum(c:Course)(d q:Int)(f:Field)(h:History)(k:Int):Int:=(prz c d q k (grpL f h f.Runners.length k).length).sum
theorem Qjt(c:Course)(d q:Int)(f:Field)(h:History):∀m,(((List.range m).map rkN).map (gSum c d q f h)).sum=(prz c d q 1 (cntT f h (m+1))).sum
 |0=>by
  have:cntT f h 1=0:=QfI λi hi=>by
   by_cases z:0<rankG f h i
   .rw[decide_eq_false (show¬rankG f h i<1 by omega),Bool.and_false]
   .rw[decide_eq_false z,Bool.false_and]
  rw[this];rfl
 |m+1=>by
  rw[Xz,Xg,Xg,List.sum_append,Qjt c d q f h m,Qkd,Qi0];simp only[Vr,Vs,List.sum_cons,List.sum_nil,Int.add_zero];unfold gSum;by_cases z:0<(grpL f h f.Runners.length (rkN m)).length
  .rw[QjW z,show(1:Int)+((m:Nat):Int)=rkN m by unfold rkN;omega]
  .rw[show(grpL f h f.Runners.length (rkN m)).length=0 by omega];simp[prz]
theorem QdU{g:Int->Int}{p:Int->Bool}:∀(l:List Int),(∀x∈l,p x=false->g x=0)->((l.filter p).map g).sum=(l.map g).sum
 |[],_=>rfl
 |x::l,h=>by
  have ih:=QdU l λy hy=>h y (Vd _ hy);rw[Xd];cases q:p x with
  |true=>simp only[if_true,Vr,List.sum_cons,ih]
  |false=>
   simp only[Xj,if_false,Vr,List.sum_cons,ih,h x (by simp) q,Int.zero_add]
theorem QoK(c:Course)(d q:Int)(f:Field)(h:History)(n:Nat)(a:n=f.Runners.length):((ksG f h n).map (gSum c d q f h)).sum=(prz c d q 1 (cntT f h (n+1))).sum:=by
 subst a;unfold ksG;rw[QdU,Qjt];intro x _ hx;unfold gSum;have:(grpL f h f.Runners.length x).isEmpty=true:=by simpa using hx
 rw[List.isEmpty_iff.1 this];rfl
theorem Qlv(m q:Nat):∀t,t<=m->(outT m q t).sum=((m*q+t:Nat):Int):=by
 induction m with
 |zero=>
  intro t b;have e:t=0:=by omega
  rw[e];simp[outT]
 |succ m a=>
  intro t b;have d:outT (m+1) q t=outT m q t++[(q:Int)+(if m<t then 1 else 0)]:=by unfold outT;rw[Xz,Xg];rfl
  rw[d,List.sum_append,Xn];simp only[List.sum_cons,List.sum_nil];by_cases z:t<=m
  .rw[a t z,if_neg (by omega)];omega
  .obtain rfl:t=m+1:=by omega
   have e:outT m q (m+1)=outT m q m:=by
    unfold outT;refine List.map_congr_left λi f=>?_;have:=List.mem_range.1 f;rw[if_pos (by omega),if_pos (by omega)]
   rw[e,a m (X0 _),if_pos (by omega)];omega
def sumA(l:List Payment):Int:=(l.map (·.Amount)).sum
theorem QgG:∀(g ps:List Int),g.length=ps.length->(∀p∈ps,0<=p)->sumA (zipP g ps)=ps.sum
 |[],[],_,_=>rfl
 |[],p::ps,h,_=>by simp at h
 |b::g,[],h,_=>by simp at h
 |b::g,p::ps,h,hp=>by
  have ih:=QgG g ps (by simpa using h) λx hx=>hp x (Vd _ hx);have h0:=hp p (by simp);rw[QcS,List.sum_cons];unfold sumA at*;by_cases z:0<p
  .rw[Yh z];simp only[cond_true,Vr,List.sum_cons,ih]
  .rw[Q4 z];simp only[cond_false,ih];omega
theorem Qlw(m q t:Nat):∀p∈outT m q t,0<=p:=by
 intro p a;unfold outT at a;obtain⟨i,_,rfl⟩:=Xf.1 a;split<;>omega
theorem QkT(a b:List Payment):sumA (a++b)=sumA a+sumA b:=by unfold sumA;rw[Xg,List.sum_append]
theorem Qg8(c:Course)(b:PrizesOk c)(d q:Int){f:Field}(h:History):∀(a:List Int) (acc L:List Payment),(∀k∈a,k∈ksG f h f.Runners.length)->inPL c d q f h a acc=some L->sumA L=sumA acc+(a.map (gSum c d q f h)).sum
 |[],acc,L,_,e=>by obtain rfl:=X7 e;simp
 |k::a,acc,L,hks,e=>by
  unfold inPL at e;cases hg:grpPay c d q f h k with
  |none=>rw[hg]at e;cases e
  |some l=>
   rw[hg]at e;have ih:=Qg8 c b d q h a _ L (λx hx=>hks x (Vd _ hx)) e;rw[ih,QkT,Vr,List.sum_cons];have g1:=(Qcu (hks k (by simp))).1;have:sumA l=gSum c d q f h k:=by
    unfold grpPay at hg;unfold gSum;rcases Qf2 b d q k (grpL f h f.Runners.length k).length with⟨s,g,j,i⟩|z
    .rw[g]at hg;simp only[bne_self_eq_false,cond_false,Int.toNat_natCast]at hg;obtain rfl:=X7 hg;rw[QgG _ _ (by unfold splN;rw[Y3]) (by unfold splN;exact Qlw _ _ _)];unfold splN;rw[Qlv _ _ _ (Nat.le_of_lt (Nat.mod_lt _ (by omega))),Nat.div_add_mod,i]
    .rw[z]at hg;cases hg
   rw[this];omega
theorem Qg6(p:Payment):∀l,sumA (insP p l)=p.Amount+sumA l
 |[]=>by simp[insP,sumA]
 |q::l=>by
  have ih:=Qg6 p l;unfold insP;unfold sumA at*;cases decide (q.Bib<p.Bib)with
  |false=>simp
  |true=>simp only[cond_true,Vr,List.sum_cons,ih];omega
theorem QiS:∀(L l:List Payment),sumA (L.foldl insQ l)=sumA L+sumA l
 |[],l=>by simp[sumA]
 |p::L,l=>by
  rw[XK,QiS L];unfold insQ;rw[Qg6];unfold sumA;simp only[Vr,List.sum_cons];omega
theorem QgK:∀(l:List Int) (n:Int),0<=n->(∀x∈l,0<=x)->n+l.sum<=1125899906842624->sumV n l=.cont (n+l.sum)
 |[],n,_,_,_=>by simp[sumV]
 |x::l,n,h0,h1,h2=>by
  have hx:=h1 x (by simp);have hl:0<=l.sum:=by
   have a:∀t:List Int,(∀y∈t,0<=y)->0<=t.sum:=by
    intro t
    induction t with
    |nil=>intro _;exact Int.le_refl _
    |cons y t f=>intro h;rw[List.sum_cons];have:=h y (by simp);have:=f λz g=>h z (Vd _ g);omega
   exact a l λy b=>h1 y (Vd _ b)
  rw[List.sum_cons]at h2;unfold sumV;rw[QO (by omega) (by omega)];have e:badA x=false:=by unfold badA;rw[decide_eq_false (by omega),decide_eq_false (by omega)];rfl
  have d:badA (n+x)=false:=by unfold badA;rw[decide_eq_false (by omega),decide_eq_false (by omega)];rfl
  rw[e,d];simp only[Bool.or_self,cond_false];rw[QgK l (n+x) (by omega) (λy b=>h1 y (Vd _ b)) (by omega),List.sum_cons];congr 1;omega
theorem Qfr(c:Course)(d q:Int){f:Field}(h:History):∀(j:List Int) (acc L:List Payment),(∀k∈j,k∈ksG f h f.Runners.length)->inPL c d q f h j acc=some L->(∀p∈acc,0<p.Amount/\ ∃i,i<f.Runners.length/\0<rankG f h i/\bibF f i=p.Bib)->∀p∈L,0<p.Amount/\ ∃i,i<f.Runners.length/\0<rankG f h i/\bibF f i=p.Bib
 |[],acc,L,_,e,ha=>by obtain rfl:=X7 e;exact ha
 |k::j,acc,L,hks,e,ha=>by
  unfold inPL at e;cases hg:grpPay c d q f h k with
  |none=>rw[hg]at e;cases e
  |some l=>
   rw[hg]at e;refine Qfr c d q h j _ L (λx hx=>hks x (Vd _ hx)) e λp hp=>?_;rcases List.mem_append.1 hp with hp|hp
   .exact ha p hp
   .have hl:∃ps,l=zipP (grpL f h f.Runners.length k) ps:=by
     unfold grpPay at hg;cases z:((sumP (prz c d q k (grpL f h f.Runners.length k).length)).2 != 0)with
     |true=>rw[z]at hg;cases hg
     |false=>rw[z]at hg;exact⟨_,(X7 hg).symm⟩
    obtain⟨ps,rfl⟩:=hl;obtain⟨i,r,s,n⟩:=Qcv ((QdQ _ ps).subset (Xf.2 ⟨p,hp,rfl⟩));have t:=(Qcu (hks k (by simp))).2.1;refine⟨?_,i,r,by omega,n⟩;have pos:∀(g ps:List Int),p∈zipP g ps->0<p.Amount:=by
     intro g
     induction g with
     |nil=>intro ps a;simp[zipP]at a
     |cons b g m=>
      intro ps a;cases ps with
      |nil=>simp[zipP]at a
      |cons y ps=>
       rw[QcS]at a;by_cases z:0<y
       .rw[Yh z]at a;rcases Ve.1 a with rfl|a
        .exact z
        .exact m ps a
       .rw[Q4 z]at a;exact m ps a
    exact pos _ ps hp
theorem QjG(f:Field)(h:History):(timesL f h f.Runners.length).length=cntT f h (f.Runners.length+1):=by
 unfold timesL cntT;rw[X9];show cntR (λk=> !(outG f h k).Out) f.Runners.length=_;refine Qb8 λi a=>?_;have:=QgT (h:=h) a;cases q:(outG f h i).Out with
 |true=>rw[Qeb q];rfl
 |false=>
  have:=QdC q;rw[decide_eq_true (show 0<rankG f h i by omega),decide_eq_true (show rankG f h i<f.Runners.length+1 by omega)];rfl
theorem QkZ{L:List Payment}(hn:(L.map (·.Bib)).Nodup):(srtP L).Pairwise ltB:=
 (Qd0 L [] [] ⟨List.nodup_nil,List.Pairwise.nil,λb v=>⟨(λh=>by cases h),λh=>by cases h⟩⟩ hn λx hx=>by cases hx).st
theorem law_PrizesSum(c:Course)(f:Field)(d k:Int)(h:History)(hc:Course.wf c)(hf:Field.wf f)(h3:QE .i64 d)(h4:QE .i64 k)(hh:History.wf h):∃n,F_fy n c f d k h=some true:=by
 have w:=QhY hc;have q:=QiC hc;obtain⟨t1,t2⟩:=QmW hc;obtain⟨b1,H,q1⟩:=QjZ c w q t1 t2;obtain⟨b2,P,q2⟩:=few25 f hf;refine Ev.ex ?_;unfold F_fy;refine Ea (Ez Qof) ?_;simp only[Xh,cond_false];cases b:b1 with
 |false=>exact Ea (v:=true) (Ea (H.eq b) (Qa _)) (Qa _)
 |true=>
 cases e:b2 with
 |false=>exact Ea (v:=true) (Ea (H.eq b) (Ea (P.eq e) (Qa _))) (Qa _)
 |true=>
 cases r:decide ((h.Offsets.length:Int)<=20)&&decide ((h.Choices.length:Int)<=20)with
 |false=>exact Ea (v:=true) (Ea (H.eq b) (Ea (P.eq e) (Ea ((Qcx h).eq r) (Qa _)))) (Qa _)
 |true=>
 have fl:=q1 b;have ff:=q2 e;have hr:=ff.runs;have y:=w.prize;cases R:fieldB f with
 |false=>
  refine Ea (v:=true) (Ea (H.eq b) (Ea (P.eq e) (Ea ((Qcx h).eq r) (Ea (v:=240) ?_ (Qa _))))) (Qa _);unfold F_au;refine Ea (v:=240) ((Qfz f ff).eq (by rw[R];rfl)) ?_;exact Qa _
 |true=>
 have o:=Qe3 ff R;cases G:admB f h with
 |false=>exact Ea (v:=true) (Ea (H.eq b) (Ea (P.eq e) (Ea ((Qcx h).eq r) (Ea (v:=260) ((QeB o h).eq (by rw[G];rfl)) (Qa _))))) (Qa _)
 |true=>
 have a:=QiH G;refine Ea (v:=false) (Ea (H.eq b) (Ea (P.eq e) (Ea ((Qcx h).eq r) (Ea (v:=0) ((QeB o h).eq (by rw[G];rfl)) (Qa _))))) ?_;refine Ym ?_;obtain⟨e1,N⟩:=Qgo c w q fl t1 t2;have M:(e1 != 0)=false->PrizesOk c:=λz=>QhL (Qhz c w q fl t1 t2 N z);refine Ea (ev_In c f d k e1 h N ff y M) ?_;unfold inV;cases hk:(checkV e1 c f d k != 0)with
 |true=>
  simp only[cond_true,hk];exact Qa _
 |false=>
 have M:=M (QeJ hk);simp only[cond_false,G,Xh];cases T:inPL c d k f h (ksG f h f.Runners.length) []with
 |none=>exact Qa _
 |some L=>
 simp only[bne_self_eq_false,cond_false];have ac:(srtP L).length<=36:=by
  have J:=Qeo c d k h _ _ L T;have X:=Qi4 f h f.Runners.length;have h4:(ksG f h f.Runners.length).length*f.Runners.length<=6*6:=Nat.mul_le_mul (by omega) hr;simp only[List.length_nil]at J;unfold srtP;rw[Qg5];simp;omega
 have l:∀p∈srtP L,0<p.Amount/\ ∃i,i<f.Runners.length/\0<rankG f h i/\bibF f i=p.Bib:=by
  intro p t;rcases(Qfe p L []).1 t with t|t
  .exact Qfr c d k h _ [] L (λx E=>E) T (λx E=>by cases E) p t
  .cases t
 have F:=QkZ (Qb4 c d k o h _ [] L (Qfo ..) List.nodup_nil (λp t=>by cases t) T);refine Ea (v:=Ctl.cont ((srtP L).map (·.Amount))) ?_ ?_
 .refine(Ew (λi=>(((srtP L).take i).map (·.Amount),(i:Int))) (srtP L).length rfl (λi V=>?_) ?_:Ev (λn=>iter (F_hx n f h (srtP L,0)) n (([]:List Int),0)) (Ctl.cont ((srtP L).map (·.Amount))))
  .have g:=atN (by omega) V;obtain⟨g1,j,g2,g3,g4⟩:=l _ g.mem;unfold F_hx;simp only[g.lt,cond_true,g.ix,XQ,g.nx,Q4 (show¬((srtP L)[i]).Amount<=0 by omega),cond_false];refine Ea (v:=false) ?_ ?_
   .by_cases Y:0<i
    .have J:i-1<(srtP L).length:=by omega
     have ab:((srtP L)[i-1]).Bib<((srtP L)[i]).Bib:=List.pairwise_iff_getElem.1 F (i-1) i J V (by omega);rw[Yh (show(0:Int)<(i:Int)by omega),Qct (by omega) Y (by omega) (XR J)];simp only[cond_true,XQ,Q4 (show¬((srtP L)[i]).Bib<=((srtP L)[i-1]).Bib by omega)];exact Qa _
    .rw[Q4 (show¬(0:Int)<(i:Int)by omega)];exact Qa _
   .simp only[cond_false];rw[Qbc (by simp;omega)];simp only[XQ];have O:((List.range f.Runners.length).any λj=>(bibF f j==((srtP L)[i]).Bib)&&decide (0<((rankG f h j:Nat):Int)))=true:=Xx.2 ⟨j,by simpa using g2,by rw[g4,decide_eq_true (by omega)];simp⟩;refine Ea (v:=true) ?_ ?_
    .rw[<- O];refine Ew (λm=>((List.range m).any (λj=>(bibF f j==((srtP L)[i]).Bib)&&decide (0<((rankG f h j:Nat):Int))),(m:Int))) f.Runners.length rfl (λm W=>?_) ?_
     .unfold F_jn;simp only[ltN W,cond_true,Qq (XR W),XQ,Q5 (show m<=1048576 by omega)];refine Ea (Qht o G W) ?_;rw[Xz,List.any_append, <- QdJ W];simp only[List.any_cons,List.any_nil,Bool.or_false,beq_self_eq_true,cond_true];exact Ea (Qi λ_=>Ei λ_=>Qa _) (Qa _)
     .unfold F_jn;simp only[geN (X0 _),cond_false];exact Qa _
    .refine(Qa _).eq ?_;rw[g.take,Xg];rfl
  .unfold F_hx;simp only[YR,cond_false,Vh];exact Qa _
 obtain⟨u,go,gl⟩:=Qme o G;have aa:u.length<=6:=by have:=Qa5 f h f.Runners.length;omega
 refine Ea go ?_;refine Ea (v:=prz c d k 1 u.length) ?_ ?_
 .refine Ew (λi=>(prz c d k 1 i,(i:Int))) u.length rfl (λi V=>?_) ?_
  .unfold F_jj;simp only[ltN V,cond_true,Q5 (show i<=1048576 by omega)];refine Ea (Qgh c d k _ y) ?_;rw[Qbc (by rw[Qcm];omega),Qcl,show((i+1:Nat):Int)=1+(i:Int)by omega];exact Qa _
  .unfold F_jj;simp only[geN (X0 _),cond_false];exact Qa _
 refine Ea (Qgm _ (by rw[X9];omega)) ?_;refine Ea (Qgm _ (by rw[Qcm];omega)) ?_;simp only[bne_self_eq_false,cond_false,beq_self_eq_true];rcases Qf2 M d k 1 u.length with⟨s,z1,z2,z3⟩|z
 .rw[z1];simp only[bne_self_eq_false,XQ,cond_false];have Q:((srtP L).map (·.Amount)).sum=(s:Int):=by
   have J:sumA (srtP L)=sumA L+sumA []:=QiS L [];have X:=Qg8 c M d k h _ [] L (λx E=>E) T;rw[QoK c d k f h _ rfl, <- QjG, <- gl, <- z3]at X;have Y:sumA []=0:=rfl;unfold sumA at J X Y;omega
  have B:sumP ((srtP L).map (·.Amount))=((s:Int),0):=by
   unfold sumP;rw[QgK _ 0 (Int.le_refl _) (λx E=>?_) (by omega),Q,Int.zero_add];obtain⟨p,t,rfl⟩:=Xf.1 E;have:=(l p t).1;omega
  rw[B];refine Ea (v:=true) ?_ (Qa _);exact(Qa _).eq (by simp)
 .rw[z];exact Qa _
end Go.Sw
