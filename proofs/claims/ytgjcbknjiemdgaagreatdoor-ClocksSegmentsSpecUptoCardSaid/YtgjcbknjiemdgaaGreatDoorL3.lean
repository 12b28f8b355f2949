/- The rules by which the code is walked, with what they rest on (part 3). -/
import Derived.Test.YtgjcbknjiemdgaaGreatDoorL2
import Derived.Shelf.Spec.SlicesInsertGrow
set_option linter.unusedVariables false
set_option linter.unusedSectionVars false
set_option linter.unusedSimpArgs false
namespace Go.Sw
theorem Le.env{d:Nat}{env env':Env}{H:Qd}(h:∀s,lk env' s=.any\/lk env' s=lk env s):Le d env H env' H:=by
 intro f e σ N a w r;refine⟨e,σ,⟨r.sim,λs=>?_,r.size,r.defers⟩,λ_ q=>q,rfl⟩;rcases h s with h|h
 .rw[h];trivial
 .rw[h];exact r.env s
def QoJ(env:Env):Env->Prop
 |[]=>True
 |(s,a)::r=>lk env s=a/\QoJ env r
theorem QoJ.ok{env:Env}:∀{env':Env},QoJ env env'->∀s,lk env' s=.any\/lk env' s=lk env s
 |[],_,s=>.inl rfl
 |(d,a)::e,⟨h1,h2⟩,s=>by
  by_cases q:s=d
  .simp_all[lk]
  .have:Nat.beq s d=false:=by
    simp_all[VI]
   simp only[lk,this,Vl];exact QoJ.ok h2 s
def ixO(d:Nat)(op:Op)(t:Nat)(pos:String)(af:Array Edge):Oper:={dst:=some d,op:=op,type:=t,pos:=pos,after:=af,guard:=none}
inductive Kf where
 |seq (c:Code)
 |blo (id:Nat)
 |unr (c:Code)
inductive Cf where
 |code (c:Code)
 |ops (all:Array Oper) (l:List Oper)
 |out (x:AEx)
def kq(P:Program)(h0 N:Nat):List Kf->QP->QP
 |[],Q=>Q
 |.seq c::k,Q=>Seq P h0 N c (kq P h0 N k Q)
 |.blo id::k,Q=>Blo id (kq P h0 N k Q)
 |.unr c::k,Q=>QjO P h0 N c (kq P h0 N k Q)
@[reducible] def Hd(P:Program)(h0 N:Nat):Cf->List Kf->Env->Qd->QP->Prop
 |.code c,k,env,H,Q=>TC P h0 N c env H (kq P h0 N k Q)
 |.ops all l,k,env,H,Q=>WO P h0 N all l env H (kq P h0 N k Q)
 |.out x,k,env,H,Q=>kq P h0 N k Q x env H
def Qgi(T:TyX)(h0 N:Nat):Cf->List Kf->Env->Qd->Option (Cf×List Kf×Env×Qd)
 |.code (.seq a b),k,env,H=>some (.code a,.seq b::k,env,H)
 |.code (.block id c),k,env,H=>some (.code c,.blo id::k,env,H)
 |.code (.loop c),k,env,H=>some (.code c,.unr c::k,env,H)
 |.code .skip,k,env,H=>some (.out .normal,k,env,H)
 |.code .ret,k,env,H=>some (.out .ret,k,env,H)
 |.code (.exit id),k,env,H=>some (.out (.exit id),k,env,H)
 |.code (.region id ⟨l⟩ false),k,env,H=>some (.ops ⟨l⟩ l,k,env,H)
 |.code (.cond x a b),k,env,H=>match opB env x with
  |.mk (.bool true)=>some (.code a,k,env,H)
  |.mk (.bool false)=>some (.code b,k,env,H)
  |_=>none
 |.ops all [],k,env,H=>some (.out .normal,k,env,H)
 |.ops all (o::l),k,env,H=>match stX T h0 N all o env H with
  |some (env',H')=>some (.ops all l,k,env',H')
  |none=>none
 |.out .normal,.seq c::k,env,H=>some (.code c,k,env,H)
 |.out (.exit i),.seq _::k,env,H=>some (.out (.exit i),k,env,H)
 |.out .ret,.seq _::k,env,H=>some (.out .ret,k,env,H)
 |.out .normal,.blo _::k,env,H=>some (.out .normal,k,env,H)
 |.out (.exit i),.blo id::k,env,H=>match Nat.beq i id with
  |true=>some (.out .normal,k,env,H)
  |false=>some (.out (.exit i),k,env,H)
 |.out .ret,.blo _::k,env,H=>some (.out .ret,k,env,H)
 |.out .normal,.unr c::k,env,H=>some (.code c,.unr c::k,env,H)
 |.out (.exit i),.unr _::k,env,H=>some (.out (.exit i),k,env,H)
 |.out .ret,.unr _::k,env,H=>some (.out .ret,k,env,H)
 |_,_,_,_=>none
def QhX(T:TyX)(h0 N:Nat):Nat->Cf->List Kf->Env->Qd->Option (Cf×List Kf×Env×Qd)
 |0,c,k,env,H=>some (c,k,env,H)
 |n+1,c,k,env,H=>match Qgi T h0 N c k env H with
  |some (c',k',env',H')=>QhX T h0 N n c' k' env' H'
  |none=>none
section
variable {P:Program} {T:TyX} {h0 N:Nat} {Q:QP}
theorem Ql4(e:QaU P T){c d:Cf}{k a:List Kf}{env env':Env}{H H':Qd}(h:Qgi T h0 N c k env H=some (d,a,env',H'))(g:Hd P h0 N d a env' H' Q):Hd P h0 N c k env H Q:=by
 unfold Qgi at h;split at h
 .cases h;exact TC.seq g
 .cases h;exact TC.block g
 .cases h;exact QlA g
 .cases h;exact TC.skip g
 .cases h;exact TC.ret g
 .cases h;exact TC.exit g
 .cases h;exact TC.region g
 .split at h
  .rename_i q;cases h;exact Qnh (QS q) rfl g
  .rename_i q;cases h;exact Qni (QS q) rfl g
  .cases h
 .cases h;exact WO.nil g
 .grind[Qja]
 .cases h;exact seqN g
 .cases h;exact seqX g
 .cases h;exact seqR g
 .cases h;exact bloN g
 .split at h
  .rename_i q;cases h;have:=XO q;subst this;exact bloE g
  .rename_i q;cases h;exact bloX q g
 .cases h;exact bloR g
 .cases h;exact unrN g
 .cases h;exact unrX g
 .cases h;exact unrR g
 .cases h
theorem QcV(hT:QaU P T):∀(n:Nat) {c c':Cf} {k k':List Kf} {env env':Env} {H H':Qd},QhX T h0 N n c k env H=some (c',k',env',H')->Hd P h0 N c' k' env' H' Q->Hd P h0 N c k env H Q
 |0,c,c',k,k',env,env',H,H',h,g=>by cases h;exact g
 |n+1,c,c',k,k',env,env',H,H',h,g=>by
  unfold QhX at h;split at h
  .rename_i e;exact Ql4 hT e (QcV hT n h g)
  .cases h
theorem Qj0{env:Env}{s:Nat}{a:A}(h:lk env s=a):∀t,lk (up env s a) t=lk env t:=by
 intro t;simp only[up,lk];cases q:Nat.beq t s with
 |true=>simp_all
 |false=>rfl
theorem Is{α:Type}{all:Array Oper}{l:List Oper}{env:Env}{H:Qd}{b:Bool}{x y:Option α}{r:α}(s:Nat)(h:(bif b then x else y)=some r)(d:lkB env s=.mk (.bool b))
  (t:b=true->x=some r->WO P h0 N all l (up env s (.bool true)) H Q)(e:b=false->y=some r->WO P h0 N all l (up env s (.bool false)) H Q):WO P h0 N all l env H Q:=by
 have a:=Qjo d;cases b with
 |true=>exact QD (Le.env λt=>.inr (Qj0 a t)) (t rfl h)
 |false=>exact QD (Le.env λt=>.inr (Qj0 a t)) (e rfl h)
theorem Ct3E{S B1:Type}{A B C:Code}{env:Env}{H:Qd}{k:List Kf}{b:Ctl S B1}(Eb:S->Env)(Hb:S->Qd)(h:TC P h0 N A env H (kq P h0 N [.seq B] (QgS h0 b Eb Hb (kq P h0 N (.seq C::k) Q))))(g:∀s env H,b=.cont s->Le h0 env H (Eb s) (Hb s)->kq P h0 N (.seq C::k) Q .normal env H):TC P h0 N (.seq A (.seq B C)) env H (kq P h0 N k Q):=
 Qng Eb Hb h g
end
def dstN(o:Oper)(i:Nat):Nat:=match o.dst with|some d=>d|none=>1000000+i
def Qa9:Nat->Nat->List Oper->List Nat
 |0,_,_=>[]
 |_+1,_,[]=>[]
 |m+1,i,o::l=>dstN o i::Qa9 m (i+1) l
def Yn(af:List Nat):Nat->List Nat->List A->Env->Env
 |j,d::ds,x::xs,e=>(d,bif QdC af j then x else .any)::Yn af (j+1) ds xs e
 |j,d::ds,[],e=>(d,.any)::Yn af (j+1) ds [] e
 |_,[],_,e=>e
theorem Qf6{l:List Nat}{t:Nat}:QdC l t=l.contains t:=by
 induction l with
 |nil=>rfl
 |cons a r d=>
  grind[QdC,Nat.eq_of_beq_eq_true,Nat.beq_refl]
theorem Qkz{af:List Nat}{env0:Env}{s:Nat}:∀(a:List Nat) (xs f:List A) (b:Nat),
  (∃(j:Nat) (x:A),af.contains (b+j)=true/\a[j]?=some s/\(xs++f)[j]?=some x/\lk (Yn af b a xs env0) s=x)\/lk (Yn af b a xs env0) s=.any\/(a.contains s=false/\lk (Yn af b a xs env0) s=lk env0 s):=by
 intro a
 induction a with
 |nil=>intro xs f b;right;right;exact⟨rfl,by rfl⟩
 |cons d a m=>
  intro xs f b;have next:∀(e:List A),(∃(j:Nat) (x:A),af.contains (b+1+j)=true/\a[j]?=some s/\(e++f)[j]?=some x/\lk (Yn af (b+1) a e env0) s=x)->∀l,(∃(j:Nat) (x:A),af.contains (b+j)=true/\(d::a)[j]?=some s/\(l::e++f)[j]?=some x/\lk (Yn af (b+1) a e env0) s=x):=by
   rintro e ⟨j,x,i,g,p,n⟩ l;exact⟨j+1,x,by grind,by grind,by grind,n⟩
  cases xs with
  |nil=>
   cases q:Nat.beq s d with
   |true=>simp_all[Yn,lk]
   |false=>
    have k:s≠d:=λz=>by simp_all
    simp only[Yn,lk,q,Vl];rcases m [] [] (b+1)with⟨j,x,i,g,p,n⟩|h|⟨i,g⟩
    .simp at p
    .grind
    grind
  |cons x xs=>
   cases q:Nat.beq s d with
   |true=>
    have:=XO q;subst this;simp only[Yn,lk,q,Vk];cases c:QdC af b with
    |true=>left;exact⟨0,x,by rw[<- Qf6];exact c,rfl,rfl,rfl⟩
    |false=>simp
   |false=>
    have k:s≠d:=λz=>by simp_all
    simp only[Yn,lk,q,Vl];rcases m xs f (b+1)with h|h|⟨i,g⟩
    .exact .inl (next xs h x)
    .grind
    grind
section
variable {P:Program} {T:TyX} {h0 N m:Nat} {l:List Oper} {ds:List Nat} {env:Env} {H:Qd} {Q:QP} {K:List Oper->Env->Qd->Prop}
def DS(P:Program)(N m:Nat)(l:List Oper)(ds:List Nat)(env:Env)(H:Qd)(K:List Oper->Env->Qd->Prop)(r:List Oper)(xs:List A):Prop:=
 r=l.drop xs.length->∃ys,xs.length+ys.length=m/\(∀j,xs.length<=j->j<m->JC P N l ds (xs++ys) env H.length H.length j H H)/\K (l.drop m) (Qaq ds (xs++ys) env) H
theorem oqOf{xs:List A}:∀(c i:Nat),(∀j,i<=j->j<i+c->JC P N l ds xs env H.length H.length j H H)->Oq P N l ds xs env H i c
 |0,i,_=>.n
 |c+1,i,h=>.c (by grind) (oqOf c (i+1) (by grind))
theorem QnB{id:Nat}{k:List Kf}(m:Nat)(f:P.follows .mixedOrders=true)(n:Go.Sw.draw0 l m N (Qa9 m 0 l)=true)(a:Nat.ble h0 H.length=true)
  (h:DS P N m l (Qa9 m 0 l) env H (λr e H=>WO P h0 N l.toArray r e H Q) l []):TC P h0 N (.region id l.toArray true) env H Q:=by
 obtain⟨j,i,g,d⟩:=h rfl;simp only[List.length_nil,Xu,Vd]at i g d;exact TC.draw0 m _ j f n (by simp_all) a (oqOf m 0 (by grind)) d
theorem DS.done{xs:List A}{r:List Oper}(d:Nat.beq xs.length m=true)(h:K r (Qaq ds xs env) H):DS P N m l ds env H K r xs:=by
 intro a;have e:=XO d;subst a;refine⟨[],by simpa using e,λj f g=>by omega,?_⟩
 grind
theorem DS.add{xs:List A}{o:Oper}{r:List Oper}{x:A}(h:Nat.blt xs.length m=true)(f:∀ys,l[xs.length]?=some o->JC P N l ds (xs++x::ys) env H.length H.length xs.length H H)(k:DS P N m l ds env H K r (xs++[x])):DS P N m l ds env H K (o::r) xs:=by
 intro d;have a:xs.length<l.length:=by
  grind[List.drop_eq_nil_of_le]
 rw[Xo a]at d;cases d;obtain⟨ys,g,e,i⟩:=k (by simp)
 grind
theorem Qik{xs a:List A}{x:A}:(xs++x::a)[xs.length]?=some x:=by simp
theorem DS.wo{xs:List A}{o:Oper}{r:List Oper}{x:A}{d:Nat}(h:WO P H.length N l.toArray [o] (Yn (Qh o) 0 ds xs env) H (Y8 (up (Yn (Qh o) 0 ds xs env) d x) H))(k:DS P N m l ds env H K r (xs++[x]))
  (e:o.dst=some d:=by exact rfl)(hx:Nat.blt xs.length m=true:=by exact rfl):DS P N m l ds env H K (o::r) xs:=
 .add hx (λa f=>.woE o _ d x f e Qik (he:=by
  intro s;rcases Qkz (af:=Qh o) (env0:=env) (s:=s) ds xs (x::a) 0 with⟨j,y,n,g,i,p⟩|q|q
  .grind
  .grind
  grind) (hdd:=Qea H) (h:=h)) k
theorem DS.v{xs:List A}{o:Oper}{r:List Oper}{x:A}{d:Nat}(h:OpV P o (Yn (Qh o) 0 ds xs env) H x)(k:DS P N m l ds env H K r (xs++[x]))(hg:QB l.toArray o (Yn (Qh o) 0 ds xs env) true:=by exact rfl)
  (hd:o.dst=some d:=by exact rfl)(hN:Nat.blt d N=true:=by exact rfl)(hx:Nat.blt xs.length m=true:=by exact rfl):DS P N m l ds env H K (o::r) xs:=
 .wo (YP hg hd hN h (WO.nil Y8.mk)) k hd hx
def Qdf:List A->A->FL
 |[],x=>.mk [x]
 |a::r,x=>match Qdf r x with
  |.mk r'=>.mk (a::r')
theorem Jp:∀(l:List A) (x:A),Qdf l x=.mk (l++[x])
 |[],x=>rfl
 |a::r,x=>by unfold Qdf;rw[Jp r];rfl
def QhY(T:TyX)(N m:Nat)(l:List Oper)(ds:List Nat)(env:Env)(H:Qd):Nat->Nat->List Oper->List A->Option (List Oper×List A)
 |0,_,r,xs=>some (r,xs)
 |_+1,_,[],_=>none
 |n+1,i,o::r,xs=>match Nat.blt i m with
  |false=>none
  |true=>match o.dst with
   |none=>none
   |some d=>match Nat.blt d N with
    |false=>none
    |true=>match Y6 ⟨l⟩ o (Yn (Qh o) 0 ds xs env)with
     |none=>none
     |some false=>match Qdf xs (.tup [])with
      |.mk xs'=>QhY T N m l ds env H n (i+1) r xs'
     |some true=>match Qds T o (Yn (Qh o) 0 ds xs env) H with
      |none=>none
      |some x=>match Qdf xs x with
       |.mk xs'=>QhY T N m l ds env H n (i+1) r xs'
theorem Qe1(hT:QaU P T):∀(n i:Nat) {r r':List Oper} {xs xs':List A},i=xs.length->QhY T N m l ds env H n i r xs=some (r',xs')->DS P N m l ds env H K r' xs'->DS P N m l ds env H K r xs
 |0,i,r,r',xs,xs',_,h,k=>by cases h;exact k
 |n+1,i,[],r',xs,xs',_,h,k=>by cases h
 |n+1,i,o::r,r',xs,xs',hi,h,k=>by
  subst hi;unfold QhY at h;split at h
  .cases h
  .rename_i q1;split at h
   .cases h
   .rename_i d hd;split at h
    .cases h
    .rename_i q2;split at h
     .cases h
     .rename_i hw;simp only[Jp]at h;exact .wo (WO.skip (QR hw) hd q2 (WO.nil Y8.mk)) (Qe1 hT n _ (by simp) h k) hd q1
     .rename_i hw;split at h
      .cases h
      .rename_i x hv;simp only[Jp]at h;exact .v (Qas hT hv) (Qe1 hT n _ (by simp) h k) (QR hw) hd q2 q1
def Qma:List A->Nat->A->FL
 |[],_,_=>.mk []
 |_::r,0,x=>.mk (x::r)
 |a::r,n+1,x=>match Qma r n x with
  |.mk r'=>.mk (a::r')
theorem Qdu:∀{l:List A} {n:Nat} {x:A},Y2 l n=some x->Qma l n x=.mk l
 |[],n,x,h=>by cases h
 |a::r,0,x,h=>by cases h;rfl
 |a::r,n+1,x,h=>by unfold Qma;rw[Qdu (l:=r) (n:=n) h]
theorem Qar{α:Type}{b:Bool}{x y:Option α}{v:α}{xs a d:List A}{r:List Oper}(j:Nat)(h:(bif b then x else y)=some v)(i:Y2 xs j=some (.bool b))(f:Qma xs j (.bool true)=.mk a)(g:Qma xs j (.bool false)=.mk d)
  (t:b=true->x=some v->DS P N m l ds env H K r a)(e:b=false->y=some v->DS P N m l ds env H K r d):DS P N m l ds env H K r xs:=by
 cases b with
 |true=>simp_all[Qdu]
 |false=>simp_all[Qdu]
end
@[reducible] def RQ{β:Type}(w:β->A)(Hc:β->Qd)(r:β):A->Qd->Prop:=λa H=>a=w r/\H=Hc r
@[reducible] def Csm{β:Type}(P:Program)(f:FuncId)(args:List A)(H:Qd)(w:β->A)(r:β):Prop:=C P f args H (RQ w (λ_=>H) r)
structure TyZ where
 sl:List (Nat×Nat×Nat)
 fn:List Nat
structure Qcv (P:Program) (Z:TyZ):Prop where
 sl:∀e∈Z.sl,(∀w,(underlying e.1).run P w=.ok (.slice e.2.1) w)/\ ∀w,(sizeOf e.2.1).run P w=.ok e.2.2 w
 fn:∀f∈Z.fn,∀(a:Array Value) (w:World),(callFunc f a).run P w=.ok (.enter f a) w
section
variable {P:Program} {Z:TyZ} {h0 N:Nat} {all:Array Oper} {o:Oper} {l:List Oper} {env:Env} {H:Qd} {Q:QP} {d:Nat}
theorem Izz(n:Qcv P Z){α:Type}{e:α->List A}{t r k:Nat}{L:List α}{m:IntKind}{i:Int}{v:α}(h:idx L i=some v)(q:ixB o env=some (d,t,k,L.map e,m,i))(g:WO P h0 N all l (up env d (.rp (e v))) H Q)
  (f:Qcn Z.sl t=some (r,k))(hg:Y6 all o env=some true)(p:Nat.blt d N=true):WO P h0 N all (o::l) env H Q:=by
 obtain⟨j,a⟩:=n.sl _ (Qat f);exact Ix h j a q g (QR hg) p
theorem Ize(j:Qcv P Z){α:Type}{e:α->List A}{t n k:Nat}{L:List α}{f:IntKind}{i:Int}{v:α}{cs:List A}(h:idx L i=some v)(he:e v=cs)(q:ixB o env=some (d,t,k,L.map e,f,i))(g:WO P h0 N all l (up env d (.rp cs)) H Q)
  (a:Qcn Z.sl t=some (n,k))(hg:Y6 all o env=some true)(m:Nat.blt d N=true):WO P h0 N all (o::l) env H Q:=by
 subst he;exact Izz j h q g a hg m
theorem Lmz(h:Qcv P Z){α:Type}{e:α->List A}{t m k j:Nat}{L:List α}(q:lnB o env=some (d,t,.mk (.rsl k (L.map e))))(g:WO P h0 N all l (up env d (.int .i64 L.length)) H Q)
  (a:Qcn Z.sl t=some (m,j))(hg:Y6 all o env=some true)(i:Nat.blt d N=true):WO P h0 N all (o::l) env H Q:=by
 obtain⟨f,n⟩:=h.sl _ (Qat a);exact LnM f q g (QR hg) i
def Qgc(Z:TyZ)(o:Oper)(env:Env):Option (Nat×Nat×List A):=
 match o.dst with
 |none=>none
 |some d=>match o.op with
  |.call {callee:=.value (.func f),args:=⟨xs⟩,argTypes:=_}=>bif QdC Z.fn f then(match fl (Qic env xs)with|.mk ax=>some (d,f,ax))else none
  |.call {callee:=.value (.tmp x),args:=⟨xs⟩,argTypes:=_}=>match opB env (.tmp x)with
   |.mk (.fn (.func f) vf vc)=>bif QdC Z.fn f then(match fl (vf++(Qic env xs++vc))with|.mk ax=>some (d,f,ax))else none
   |_=>none
  |_=>none
theorem QeG(i:Qcv P Z){f:Nat}{args:List A}(h:Qgc Z o env=some (d,f,args)):o.dst=some d/\OpC P o env H f args:=by
 unfold Qgc at h;split at h
 .cases h
 .rename_i l g;split at h
  .rename_i a xs k e;cases q:QdC Z.fn a with
   |false=>grind
   |true=>
    rw[q]at h;simp only[Qcs,Vk]at h;cases h;exact⟨g,OpC.fn (xs:=xs) (i.fn _ (Qha q)) e rfl (Qc5 xs).symm⟩
  .rename_i x xs k e;split at h
   .rename_i a n m j;cases q:QdC Z.fn a with
    |false=>grind
    |true=>
     rw[q]at h;simp only[Qcs,Vk]at h;cases h;exact⟨g,QkL (xs:=xs) (i.fn _ (Qha q)) e rfl (QS j) (by rw[Qc5])⟩
   .cases h
  .cases h
theorem Czz(i:Qcv P Z){β γ:Type}{F:Option β}{F':β->Option γ}{r:γ}{f:Nat}{args a:List A}{Hc:Qd}{w:β->A}(π:List Nat)(h:F.bind F'=some r)(s:∀v,F=some v->C P f a Hc (RQ w (λ_=>Hc) v))
  (e:Qgc Z o env=some (d,f,args))(g:∀v,F=some v->F' v=some r->WO P h0 N all l (up env d (w v)) H Q)(x:∀v,QkV (w v)=some (.mk (w v)))
  (hargs:args=Qag (rho π H.length) a)(j:π.map (λp=>H[p]?)=(Hc.map (Q8 (rho π H.length))).map some)(hπ:π.Nodup)(hg:Y6 all o env=some true)(n:Nat.blt d N=true)(u:Nat.ble h0 H.length=true):WO P h0 N all (o::l) env H Q:=by
 obtain⟨v,q,m⟩:=Yq h;obtain⟨t,k⟩:=QeG (H:=H) i e
 grind[Pc,QR]
theorem DzZ(y:Qcv P Z){K:List Oper->Env->Qd->Prop}{m:Nat}{i:List Oper}{e:List Nat}{xs:List A}{β γ:Type}{F:Option β}{F':β->Option γ}{r:γ}{f:Nat}{args a:List A}{Hc:Qd}{w:β->A}(π:List Nat)(h:F.bind F'=some r)(t:∀v,F=some v->C P f a Hc (RQ w (λ_=>Hc) v))
  (j:Qgc Z o (Yn (Qh o) 0 e xs env)=some (d,f,args))(g:∀v,F=some v->F' v=some r->DS P N m i e env H K l (xs++[w v]))(x:∀v,QkV (w v)=some (.mk (w v)))
  (hargs:args=Qag (rho π H.length) a)(B:π.map (λp=>H[p]?)=(Hc.map (Q8 (rho π H.length))).map some)(hπ:π.Nodup)(hg:Y6 i.toArray o (Yn (Qh o) 0 e xs env)=some true)(z:Nat.blt d N=true)(u:Nat.blt xs.length m=true):DS P N m i e env H K (o::l) xs:=by
 obtain⟨v,k,s⟩:=Yq h;obtain⟨n,q⟩:=QeG (H:=H) y j;exact .wo (Pc π n q (t v k) (x v) (WO.nil Y8.mk) hargs B hπ (QR hg) z (by simp)) (g v k s) n u
theorem ln:Qbe H [] []:=trivial
theorem ls{ax d:List A}{a:A}(k:Qbe H ax d)(h:YC a=true:=by exact rfl):Qbe H (a::ax) (a::d):=⟨.inl ⟨rfl,h⟩,k⟩
theorem lo{ax a:List A}{i n k t:Nat}{es:List (List A)}(d:Qbe H ax a)(e:H[i]?=some (.row t k es):=by exact rfl)(hn:es.length=n:=by exact XY ..):Qbe H (.osl i 0 n k::ax) (.rsl k es::a):=
 ⟨.inr (by grind),d⟩
theorem Cbz(n:Qcv P Z){β γ:Type}{F:Option β}{F':β->Option γ}{r:γ}{f:Nat}{args a:List A}{w:β->A}(h:F.bind F'=some r)(k:∀v,F=some v->C P f a [] (RQ w (λ_=>[]) v))
  (e:Qgc Z o env=some (d,f,args))(q:Qbe H args a)(g:∀v,F=some v->F' v=some r->WO P h0 N all l (up env d (w v)) H Q)(t:∀v,Ys (w v)=true)
  (hg:Y6 all o env=some true)(p:Nat.blt d N=true):WO P h0 N all (o::l) env H Q:=by
 obtain⟨v,j,s⟩:=Yq h;obtain⟨m,i⟩:=QeG (H:=H) n e;refine QiS i q (k v j) ?_ ?_ (QR hg) m p
 .grind
 grind
end
def ixL:List Nat:=[0,1,2,3,4,5,6,7,8,9,10,11,12,13,14,15,16,17,18,19,20,21,22,23,24,25,26,27,28,29,30,31,32,33,34,35,36,37,38,39,40,41,42,43,44,45,46,47,48,49,50,51,52,53,54,55,56,57,58,59,60,61,62,63]
def Qjj:List Nat->List Nat->Nat->FN
 |a::r,b::s,j=>bif Nat.beq a j then .mk b else Qjj r s j
 |_,_,j=>.mk j
mutual
def cpA(sel:List Nat):A->Bx
 |.ptr i off=>match Qjj sel ixL i with
  |.mk j=>.mk (.ptr j off)
 |.osl i o n k=>match Qjj sel ixL i with
  |.mk j=>.mk (.osl j o n k)
 |.map i=>match Qjj sel ixL i with
  |.mk j=>.mk (.map j)
 |.fn f a c=>match cpL sel a,cpL sel c with
  |.mk a',.mk c'=>.mk (.fn f a' c')
 |a=>.mk a
def cpL(sel:List Nat):List A->FL
 |[]=>.mk []
 |a::r=>match cpA sel a,cpL sel r with
  |.mk a',.mk r'=>.mk (a'::r')
end
inductive FV where
 |mk (e:Env)
def Qmr(sel:List Nat)(env:Env):List Nat->Env->FV
 |[],nE=>.mk nE
 |s::r,nE=>match lkB env s with
  |.mk a=>match cpA sel a,Qmr sel env r nE with
   |.mk a',.mk e=>.mk ((s,a')::e)
def selH(H:Qd):List Nat->List Nat->List (Nat×Blk)->FB
 |a::r,p::ps,[]=>match Y2 H a,selH H r ps []with
  |some b,.mk l=>.mk (b::l)
  |none,.mk l=>.mk l
 |a::r,p::ps,(q,b)::n=>bif Nat.beq p q then(match selH H r ps n with|.mk l=>.mk (b::l))else(match Y2 H a,selH H r ps ((q,b)::n)with
  |some b,.mk l=>.mk (b::l)
  |none,.mk l=>.mk l)
 |_,_,_=>.mk []
def Qm1(sel keep:List Nat)(nE:Env)(nH:List (Nat×Blk))(env:Env)(H:Qd):Option (Env×Qd):=
 match Qmr sel env keep nE,selH H sel ixL nH with
 |.mk e,.mk h=>some (e,h)
section
variable {P:Program} {h0 N:Nat} {c:Code} {env:Env} {H:Qd} {Q:QP}
def CutQ{β:Type}(h0:Nat)(b:β)(E':β->Env)(H':β->Qd)(Q:QP):QP
 |.normal,env,H=>Le h0 env H (E' b) (H' b)
 |.exit id,env,H=>Q (.exit id) env H
 |.ret,env,H=>Q .ret env H
theorem QI{h0:Nat}{env:Env}{H:Qd}{Q:QP}{β:Type}{b:β}{E':β->Env}{H':β->Qd}(h:Le h0 env H (E' b) (H' b)):CutQ h0 b E' H' Q .normal env H:=h
theorem Ct{β:Type}{E':β->Env}{H':β->Qd}(b:β)(sel keep:List Nat)(nE:β->Env)(nH:β->List (Nat×Blk))(_:∀b,Qm1 sel keep (nE b) (nH b) env H=some (E' b,H' b))(h:TC P h0 N c env H (CutQ h0 b E' H' Q))(k:∀env H,Le h0 env H (E' b) (H' b)->Q .normal env H):TC P h0 N c env H Q:=
 h.mono λx env' H' q=>by
  cases x with
  |normal=>exact k _ _ q
  |exit id=>exact q
  |ret=>exact q
theorem Ji{S B:Type}{b:Ctl S B}{E':S->Env}{H':S->Qd}(sel keep:List Nat)(nE:S->Env)(nH:S->List (Nat×Blk))(_:∀s,Qm1 sel keep (nE s) (nH s) env H=some (E' s,H' s))(h:TC P h0 N c env H (QgS h0 b E' H' Q))(k:∀s env H,b=.cont s->Le h0 env H (E' s) (H' s)->Q .normal env H):TC P h0 N c env H Q:=QkH E' H' h k
theorem Lp{S B:Type}{step:S->Option (Ctl S B)}{E':S->Env}{H':S->Qd}{m:Nat}{s0:S}{b0:B}(sel keep:List Nat)(nE:S->Env)(nH:S->List (Nat×Blk))(h:iter step m s0=some b0)(_:∀s,Qm1 sel keep (nE s) (nH s) env H=some (E' s,H' s))(hI:Le h0 env H (E' s0) (H' s0))
  (body:∀s d,step s=some d->(∀b,d=.done b->b=b0)->TC P h0 N c (E' s) (H' s) (Qbd (λs env H=>Le h0 env H (E' s) (H' s)) d Q)):TC P h0 N (.loop c) env H Q:=TC.loop E' H' h hI body
end
theorem Oj{S B:Type}{d:Ctl S B}{x b0:B}(hb:∀b,d=.done b->b=b0)(h:some (Ctl.done x)=some d):x=b0:=hb x (Oi h).symm
theorem Rt{P:Program}{a:Nat}{fn:Func}{env:Env}{H:Qd}{β:Type}{e r:β}{w:β->A}{Hc:β->Qd}(h:some e=some r)(s:Nat)(π:List Nat)(d:fn.results= #[.tmp s]:=by exact rfl)(hpre:π.take a=List.range a:=by exact rfl)
  (hH:π.map (λp=>H[p]?)=((Hc e).map (Q8 (rho π H.length))).map some:=by exact rfl)(hπ:π.Nodup:=by decide)(hE:Qf2 (rho π H.length) env [(s,w e)]:=by exact⟨rfl,trivial⟩):Qbu P a fn (RQ w Hc r) .ret env H:=by
 cases h;exact R1 s d (Lr π hpre hH hπ hE)
theorem Cl{d:Nat}{env:Env}{H:Qd}{Q:QP}{β:Type}{e b:β}{E':β->Env}{H':β->Qd}(h:some e=some b)(π:List Nat)(a:π.take d=List.range d:=by exact rfl)
  (hH:π.map (λp=>H[p]?)=((H' e).map (Q8 (rho π H.length))).map some:=by exact rfl)(hπ:π.Nodup:=by decide)(hE:Qf2 (rho π H.length) env (E' e):=by(repeat' (first|exact trivial|refine⟨rfl,?_⟩))):CutQ d b E' H' Q .normal env H:=by
 cases h;exact Lr π a hH hπ hE
def plC(cat:List Nat):List (List (Nat×Nat)):=cat.map λc=>match c with|0=>[(0,0)]|1=>[(0,1)]|2=>[(1,1)]|_=>[(0,0),(1,1)]
def rqC(b:Nat)(cat:List Nat):List (List Nat):=cat.map λc=>match c with|2=>[b]|_=>[]
def hsC(cat:List Nat):List Bool:=cat.map λc=>match c with|1=>true|_=>false
section
variable {P:Program} {T:TyX} {h0 N m b:Nat} {cat:List Nat} {l:List Oper} {ds:List Nat} {env:Env} {H H1:Qd} {Q:QP} {K:List Oper->Env->Qd->Prop}
theorem QhJ{P:Program}{N:Nat}{l:List Oper}{ds:List Nat}{xs:List A}{env0:Env}{hB hE:Nat}:∀(ss:List (List (Qd×Qd))) (b:Nat),(∀i s,ss[i]?=some s->∀p∈s,JC P N l ds xs env0 hB hE (b+i) p.1 p.2)->QhK P N l ds xs env0 hB hE b ss
 |[],b,h=>.nil
 |s::ss,b,h=>.cons (h 0 s rfl) (QhJ ss (b+1) λi s' hs=>by rw[show b+1+i=b+(i+1)by omega];simp_all)
def Dob(P:Program)(N:Nat)(cat:List Nat)(l:List Oper)(ds:List Nat)(env:Env)(H H1:Qd)(zs:List A)(j:Nat):Prop:=
 ∀p∈(plC cat).getD j [],JC P N l ds zs env H.length H.length j ([H,H1].getD p.1 []) ([H,H1].getD p.2 [])
def DB(P:Program)(N m:Nat)(cat:List Nat)(l:List Oper)(ds:List Nat)(env:Env)(H H1:Qd)(K:List Oper->Env->Qd->Prop)(r:List Oper)(xs:List A):Prop:=
 r=l.drop xs.length->∃ys,xs.length+ys.length=m/\(∀j,xs.length<=j->j<m->Dob P N cat l ds env H H1 (xs++ys) j)/\K (l.drop m) (Qaq ds (xs++ys) env) H1
def DA(P:Program)(N m:Nat)(cat:List Nat)(l:List Oper)(ds:List Nat)(env:Env)(H:Qd)(K:List Oper->Env->Qd->Prop)(r:List Oper)(xs:List A):Prop:=
 r=l.drop xs.length->∃ys H1,xs.length+ys.length=m/\H.length<=H1.length/\(∀j,xs.length<=j->j<m->Dob P N cat l ds env H H1 (xs++ys) j)/\K (l.drop m) (Qaq ds (xs++ys) env) H1
theorem Qpv{d:List A}(f:cat.length=m)(r:∀j,0<=j->j<m->Dob P N cat l ds env H H1 d j):QhK P N l ds d env H.length (H.length+0) 0 ((plC cat).map λq=>q.map λp=>([H,H1].getD p.1 [],[H,H1].getD p.2 [])):=by
 refine QhJ _ 0 λi s a p k=>?_;rw[Xn]at a;cases e:(plC cat)[i]? with
 |none=>grind
 |some q=>
  rw[e]at a;cases a;obtain⟨n,h,rfl⟩:=Xe.1 k;have g:i<m:=by
   grind[plC]
  have:=r i (XS _) g n (by grind)
  grind
theorem DA.len(a:H.length<=H1.length):[H,H1].all (λX=>Nat.ble (H.length+0) X.length)=true:=by
 simp_all
theorem QnD{id:Nat}(m b:Nat)(cat:List Nat)(j:P.follows .mixedOrders=true)(q:Qd9 l m N (Qa9 m 0 l) (hsC cat) (rqC b cat) [[],[b]] (plC cat)=true)(d:Nat.beq cat.length m=true)(f:Nat.ble h0 H.length=true)
  (h:DA P N m cat l (Qa9 m 0 l) env H (λr e H=>WO P h0 N l.toArray r e H Q) l []):TC P h0 N (.region id l.toArray true) env H Q:=by
 obtain⟨p,H1,n,k,g,i⟩:=h rfl;simp only[List.length_nil,Xu,Vd]at n g i;have a:=XO d;exact Jb m 0 _ _ _ _ _ p [H,H1] H1 j q (by grind) rfl f (DA.len k) (by simp) rfl (Qpv a g) (by simp[plC,a]) i
theorem Qba{xs:List A}{o:Oper}{r:List Oper}(d:o::r=l.drop xs.length):l[xs.length]?=some o/\r=l.drop (xs.length+1):=by
 have a:xs.length<l.length:=by
  grind[List.drop_eq_nil_of_le]
 rw[Xo a]at d
 grind
theorem QhQ{zs:List A}{j c:Nat}(d:Y2 cat j=some c)(h:∀p∈(match c with|0=>[(0,0)]|1=>[(0,1)]|2=>[(1,1)]|_=>[(0,0),(1,1)]:List (Nat×Nat)),JC P N l ds zs env H.length H.length j ([H,H1].getD p.1 []) ([H,H1].getD p.2 [])):Dob P N cat l ds env H H1 zs j:=by
 intro p a
 grind[Qaz,plC]
theorem Qaw{hB hE:Nat}{xs a:List A}{o:Oper}{x:A}{d:Nat}{X X':Qd}(f:l[xs.length]?=some o)(hdd:Qao hB hE X X'=true)(h:WO P X.length N l.toArray [o] (Yn (Qh o) 0 ds xs env) X (Y8 (up (Yn (Qh o) 0 ds xs env) d x) X'))(e:o.dst=some d):
  JC P N l ds (xs++x::a) env hB hE xs.length X X':=
 .woE o _ d x f e Qik (he:=by
  intro s;rcases Qkz (af:=Qh o) (env0:=env) (s:=s) ds xs (x::a) 0 with⟨j,y,g,i,k,m⟩|q|q
  .grind
  .grind
  grind) (hdd:=hdd) (h:=h)
theorem Jf{n:Nat}{X X':Qd}:Qao n n X X'=true:=by unfold Qao;simp
theorem DA.wo{xs:List A}{o:Oper}{r:List Oper}{x:A}{d:Nat}(h:WO P H.length N l.toArray [o] (Yn (Qh o) 0 ds xs env) H (Y8 (up (Yn (Qh o) 0 ds xs env) d x) H))(k:DA P N m cat l ds env H K r (xs++[x]))
  (w:Y2 cat xs.length=some 0:=by exact rfl)(hd:o.dst=some d:=by exact rfl)(hx:Nat.blt xs.length m=true:=by exact rfl):DA P N m cat l ds env H K (o::r) xs:=by
 intro s;obtain⟨u,i⟩:=Qba s;obtain⟨n,H1,g,e,f,a⟩:=k (by grind);simp only[XZ,XX,List.length_nil,Ve,VG,Vd]at g f a;refine⟨x::n,H1,by grind,e,λj z y=>?_,a⟩;rcases Vy xs.length j with q|q
 .grind
 .obtain rfl:j=xs.length:=by omega
  refine QhQ w λp t=>?_;obtain rfl:=Vx.1 t;exact Qaw u Jf h hd
theorem DA.op{xs:List A}{o:Oper}{r:List Oper}{x:A}{d:Nat}(h:WO P H.length N l.toArray [o] (Yn (Qh o) 0 ds xs env) H (Y8 (up (Yn (Qh o) 0 ds xs env) d x) H1))(k:DB P N m cat l ds env H H1 K r (xs++[x]))(w:Nat.ble H.length H1.length=true:=by exact rfl)
  (hc:Y2 cat xs.length=some 1:=by exact rfl)(hd:o.dst=some d:=by exact rfl)(hx:Nat.blt xs.length m=true:=by exact rfl):DA P N m cat l ds env H K (o::r) xs:=by
 intro n;obtain⟨t,g⟩:=Qba n;obtain⟨i,f,e,a⟩:=k (by grind);simp only[XZ,XX,List.length_nil,Ve,VG,Vd]at f e a;refine⟨x::i,H1,by grind,(by simp_all),λj y u=>?_,a⟩;rcases Vy xs.length j with q|q
 .grind
 .obtain rfl:j=xs.length:=by omega
  refine QhQ hc λp s=>?_;obtain rfl:=Vx.1 s;exact Qaw t Jf h hd
theorem QbA{xs:List A}{o:Oper}{r:List Oper}{x x':A}{d:Nat}{H1':Qd}(h:OpH P o (Yn (Qh o) 0 ds xs env) H x H1)(a:foA x=.mk x')(e:foH H1=.mk H1')(k:DB P N m cat l ds env H H1' K r (xs++[x']))(f:o.dst=some d:=by exact rfl)(hg:Y6 ⟨l⟩ o (Yn (Qh o) 0 ds xs env)=some true:=by exact rfl)(hN:Nat.blt d N=true:=by exact rfl)(hl:Nat.ble H.length H1'.length=true:=by exact rfl)
  (hc:Y2 cat xs.length=some 1:=by exact rfl)(hx:Nat.blt xs.length m=true:=by exact rfl):DA P N m cat l ds env H K (o::r) xs:=by
 rw[Qhg]at a;rw[Qjt]at e;cases a;cases e;exact .op (QhD (XR _) (QR hg) f hN h (WO.nil Y8.mk)) k hl hc f hx
theorem DB.done{xs:List A}{r:List Oper}(d:Nat.beq xs.length m=true)(h:K r (Qaq ds xs env) H1):DB P N m cat l ds env H H1 K r xs:=by
 intro a;have e:=XO d;subst a;refine⟨[],by simpa using e,λj f g=>by omega,?_⟩
 grind
theorem DB.add{xs:List A}{o:Oper}{r:List Oper}{x:A}(e:∀ys,l[xs.length]?=some o->Dob P N cat l ds env H H1 (xs++x::ys) xs.length)(k:DB P N m cat l ds env H H1 K r (xs++[x])):DB P N m cat l ds env H H1 K (o::r) xs:=by
 intro d;obtain⟨h,a⟩:=Qba d;obtain⟨ys,g,f,i⟩:=k (by grind)
 grind
theorem DB.wo1{xs:List A}{o:Oper}{r:List Oper}{x:A}{d:Nat}(h:WO P H1.length N l.toArray [o] (Yn (Qh o) 0 ds xs env) H1 (Y8 (up (Yn (Qh o) 0 ds xs env) d x) H1))(k:DB P N m cat l ds env H H1 K r (xs++[x]))
  (e:Y2 cat xs.length=some 2:=by exact rfl)(hd:o.dst=some d:=by exact rfl):DB P N m cat l ds env H H1 K (o::r) xs:=
 .add (λg f=>QhQ e λp a=>by
  obtain rfl:=Vx.1 a;exact Qaw f Jf h hd) k
theorem DB.wo2{xs:List A}{o:Oper}{r:List Oper}{x:A}{d:Nat}(h:WO P H.length N l.toArray [o] (Yn (Qh o) 0 ds xs env) H (Y8 (up (Yn (Qh o) 0 ds xs env) d x) H))(f:WO P H1.length N l.toArray [o] (Yn (Qh o) 0 ds xs env) H1 (Y8 (up (Yn (Qh o) 0 ds xs env) d x) H1))(k:DB P N m cat l ds env H H1 K r (xs++[x]))
  (g:Y2 cat xs.length=some 3:=by exact rfl)(hd:o.dst=some d:=by exact rfl):DB P N m cat l ds env H H1 K (o::r) xs:=
 .add (λi e=>QhQ g λp a=>by
  rcases X3.1 a with rfl|a
  .exact Qaw e Jf h hd
  .obtain rfl:=Vx.1 a;exact Qaw e Jf f hd) k
def QhZ(T:TyX)(N m:Nat)(cat:List Nat)(l:List Oper)(ds:List Nat)(env:Env)(H:Qd):Nat->Nat->List Oper->List A->Option (List Oper×List A)
 |0,_,r,xs=>some (r,xs)
 |_+1,_,[],_=>none
 |n+1,i,o::r,xs=>match Nat.blt i m,Y2 cat i with
  |true,some 0=>match o.dst with
   |none=>none
   |some d=>match Nat.blt d N with
    |false=>none
    |true=>match Y6 ⟨l⟩ o (Yn (Qh o) 0 ds xs env)with
     |none=>none
     |some false=>match Qdf xs (.tup [])with
      |.mk xs'=>QhZ T N m cat l ds env H n (i+1) r xs'
     |some true=>match Qds T o (Yn (Qh o) 0 ds xs env) H with
      |none=>none
      |some x=>match Qdf xs x with
       |.mk xs'=>QhZ T N m cat l ds env H n (i+1) r xs'
  |_,_=>none
theorem Qe4(hT:QaU P T):∀(n i:Nat) {r r':List Oper} {xs xs':List A},i=xs.length->QhZ T N m cat l ds env H n i r xs=some (r',xs')->DA P N m cat l ds env H K r' xs'->DA P N m cat l ds env H K r xs
 |0,i,r,r',xs,xs',_,h,k=>by cases h;exact k
 |n+1,i,[],r',xs,xs',_,h,k=>by cases h
 |n+1,i,o::r,r',xs,xs',hi,h,k=>by
  subst hi;unfold QhZ at h;split at h
  .rename_i q1 q0;split at h
   .cases h
   .rename_i d hd;split at h
    .cases h
    .rename_i q2;split at h
     .cases h
     .rename_i hw;simp only[Jp]at h;exact .wo (WO.skip (QR hw) hd q2 (WO.nil Y8.mk)) (Qe4 hT n _ (by simp) h k) q0 hd q1
     .rename_i hw;split at h
      .cases h
      .rename_i x hv;simp only[Jp]at h;exact .wo (YP (QR hw) hd q2 (Qas hT hv) (WO.nil Y8.mk)) (Qe4 hT n _ (by simp) h k) q0 hd q1
  .cases h
theorem QnS{H:Qd}{p:Bx}{r:Lx}(h:ptX [] p=some r):ptX H p=some r:=by
 unfold ptX at h⊢
 grind[Y2]
theorem QeP{o:Oper}{e:Env}{H:Qd}{x:A}(h:Qds T o e []=some x):Qds T o e H=some x:=by
 unfold Qds at h⊢;split at h<;>first|exact h|skip
 rename_i t y a;split at h
 .cases h
 grind[QnS]
def Qe3(T:TyX)(N:Nat)(cat:List Nat)(l:List Oper)(ds:List Nat)(env:Env)(H1:Qd):Nat->Nat->List Oper->List A->Option (List Oper×List A)
 |0,_,r,xs=>some (r,xs)
 |_+1,_,[],_=>none
 |n+1,i,o::r,xs=>match o.dst with
  |none=>none
  |some d=>match Nat.blt d N with
   |false=>none
   |true=>match Y6 ⟨l⟩ o (Yn (Qh o) 0 ds xs env)with
    |none=>none
    |some false=>match Y2 cat i with
     |some 2=>(match Qdf xs (.tup [])with
      |.mk xs'=>Qe3 T N cat l ds env H1 n (i+1) r xs')
     |some 3=>(match Qdf xs (.tup [])with
      |.mk xs'=>Qe3 T N cat l ds env H1 n (i+1) r xs')
     |_=>none
    |some true=>match Y2 cat i with
     |some 2=>(match Qds T o (Yn (Qh o) 0 ds xs env) H1 with
      |none=>none
      |some x=>match Qdf xs x with
       |.mk xs'=>Qe3 T N cat l ds env H1 n (i+1) r xs')
     |some 3=>(match Qds T o (Yn (Qh o) 0 ds xs env) []with
      |none=>none
      |some x=>match Qdf xs x with
       |.mk xs'=>Qe3 T N cat l ds env H1 n (i+1) r xs')
     |_=>none
theorem QbM(hT:QaU P T):∀(n i:Nat) {r r':List Oper} {xs xs':List A},i=xs.length->Qe3 T N cat l ds env H1 n i r xs=some (r',xs')->DB P N m cat l ds env H H1 K r' xs'->DB P N m cat l ds env H H1 K r xs
 |0,i,r,r',xs,xs',_,h,k=>by cases h;exact k
 |n+1,i,[],r',xs,xs',_,h,k=>by cases h
 |n+1,i,o::r,r',xs,xs',hi,h,k=>by
  subst hi;unfold Qe3 at h;split at h
  .cases h
  .rename_i d hd;split at h
   .cases h
   .rename_i q2;split at h
    .cases h
    .rename_i hw;split at h
     .rename_i q0;simp only[Jp]at h;exact .wo1 (WO.skip (QR hw) hd q2 (WO.nil Y8.mk)) (QbM hT n _ (by simp) h k) q0 hd
     .rename_i q0;simp only[Jp]at h;exact .wo2 (WO.skip (QR hw) hd q2 (WO.nil Y8.mk)) (WO.skip (QR hw) hd q2 (WO.nil Y8.mk)) (QbM hT n _ (by simp) h k) q0 hd
     .cases h
    .rename_i hw;split at h
     .rename_i q0;split at h
      .cases h
      .rename_i x hv;simp only[Jp]at h;exact .wo1 (YP (QR hw) hd q2 (Qas hT hv) (WO.nil Y8.mk)) (QbM hT n _ (by simp) h k) q0 hd
     .rename_i q0;split at h
      .cases h
      .rename_i x hv;simp only[Jp]at h;exact .wo2 (YP (QR hw) hd q2 (Qas hT (QeP hv)) (WO.nil Y8.mk)) (YP (QR hw) hd q2 (Qas hT (QeP hv)) (WO.nil Y8.mk)) (QbM hT n _ (by simp) h k) q0 hd
     .cases h
end
def chkF(L:List (Nat×List (Nat×Nat)))(fs:List (Nat×Nat×Nat)):Bool:=
 fs.all λe=>match Qcn L e.1 with
  |some pl=>(match Y2 pl e.2.1 with
   |some q=>Nat.beq q.1 e.2.2&& !(Nat.beq q.2 0)
   |none=>false)
  |none=>false
theorem PL.get{P:Program}{fs:List Field}{a:List (Nat×Nat)}(h:PL P fs a):∀{f off n:Nat},Y2 a f=some (off,n)->∃fd,fs[f]?=some fd/\fd.offset=off/\ ∀w,(sizeOf fd.type).run P w=.ok n w:=by
 induction h with
 |nil=>intro f off n h;cases h
 |cons h k e=>
  intro f off n d;cases f with
  |zero=>cases d;grind
  |succ f=>grind[Y2]
theorem Qpg{P:Program}{L:List (Nat×List (Nat×Nat))}{fs:List (Nat×Nat×Nat)}(j:∀e∈L,QfR P e.1 e.2)(h:chkF L fs=true):∀e∈fs,∃n,QL P e.1 e.2.1 e.2.2 n:=by
 intro e r;have:=Xs.1 h e r;split at this
 .rename_i t a;split at this
  .rename_i q s;obtain⟨l,n⟩:=q;simp only[XU,Bool.not_eq_true']at this;have i:=XO this.1;obtain⟨p,g,f⟩:=j _ (Qat a);obtain⟨d,u,k,m⟩:=PL.get f s;refine⟨n,⟨⟨_,d,g,by grind,k.trans i,m,?_⟩⟩⟩
   grind[Nat.beq_refl]
  .cases this
 .cases this
section
variable {P:Program} {Z:TyZ} {h0 N:Nat} {all:Array Oper} {o:Oper} {l:List Oper} {env:Env} {H:Qd} {Q:QP} {d:Nat}
theorem Cdz(q:Qcv P Z){β γ:Type}{F:Option β}{F':β->Option γ}{r:γ}{f:Nat}{args a:List A}{Hc:Qd}{w:β->A}{Hr:β->Qd}(π:List Nat)(h:F.bind F'=some r)(m:∀v,F=some v->C P f a Hc (RQ w Hr v))
  (e:Qgc Z o env=some (d,f,args))(g:∀v,F=some v->F' v=some r->WO P h0 N all l (up env d (Y1 (rho π H.length) (w v))) (Yv H π ((Hr v).map (Q8 (rho π H.length)))) Q)
  (hargs:args=Qag (rho π H.length) a)(t:π.map (λp=>H[p]?)=(Hc.map (Q8 (rho π H.length))).map some)(hπ:π.Nodup)(hg:Y6 all o env=some true)(j:Nat.blt d N=true)(s:Nat.ble h0 H.length=true):WO P h0 N all (o::l) env H Q:=by
 obtain⟨v,k,u⟩:=Yq h;obtain⟨n,i⟩:=QeG (H:=H) q e;refine Qz π i (m v k) ?_ hargs t hπ (QR hg) n j s
 grind
end
inductive FLL where
 |mk (l:List (List A))
def cpLL(sel:List Nat):List (List A)->FLL
 |[]=>.mk []
 |a::r=>match cpL sel a,cpLL sel r with
  |.mk a',.mk r'=>.mk (a'::r')
inductive FBk where
 |mk (b:Blk)
def cpBk(sel:List Nat):Blk->FBk
 |.cells t cs=>match cpL sel cs with
  |.mk l=>.mk (.cells t l)
 |.rowr t k es=>match cpLL sel es with
  |.mk l=>.mk (.rowr t k l)
 |.wins t a n c=>match Qjj sel ixL a with
  |.mk a'=>.mk (.wins t a' n c)
 |.ents t a b es=>match Qjj sel ixL a,Qjj sel ixL b with
  |.mk a',.mk b'=>.mk (.ents t a' b' es)
 |b=>.mk b
def selD(H:Qd)(sel:List Nat):List Nat->FB
 |[]=>.mk []
 |a::r=>match Y2 H a with
  |some b=>(match cpBk sel b,selD H sel r with
   |.mk b',.mk l=>.mk (b'::l))
  |none=>.mk []
def retC(sel sl:List Nat)(env:Env)(H:Qd):Option (Env×Qd):=
 match Qmr sel env sl [],selD H sel sel with
 |.mk e,.mk h=>some (e,h)
theorem Rx{P:Program}{f:Nat}{fn:Func}{env E':Env}{H H':Qd}{Qr:A->Qd->Prop}{e:A}(π sl:List Nat)(_:retC π sl env H=some (E',H'))(a:Qcw P fn E' H' e)(g:Qr e H')(d:π.take f=List.range f:=by exact rfl)
  (hH:π.map (λp=>H[p]?)=(H'.map (Q8 (rho π H.length))).map some:=by exact rfl)(hπ:π.Nodup:=by decide)(hE:Qf2 (rho π H.length) env E':=by(repeat' (first|exact trivial|refine⟨rfl,?_⟩))):Qbu P f fn Qr .ret env H:=
 ⟨E',H',e,Lr π d hH hπ hE,a,g⟩
def nxL{T:Type}:List T->T->List T->Prop:=λl x rem=>l=x::rem
def runL{S T B:Type}(step:S->T->Option (Ctl S B)):List T->S->Option (Ctl S B)
 |[],s=>some (.cont s)
 |x::l,s=>(step s x).bind λd=>match d with
  |.cont s'=>runL step l s'
  |.done b=>some (.done b)
def QbR{S T B:Type}(step:S->Option (List T×Ctl S B)):Nat->S->Option (List T×B)
 |0,_=>none
 |n+1,s=>(step s).bind λp=>match p.2 with
  |.cont s'=>(QbR step n s').bind λq=>some (p.1++q.1,q.2)
  |.done b=>some (p.1,b)
def Qnl{S B:Type}(h1:Nat)(env:Env)(Q:QP)(d:Ctl S B)(Hp:S->Qd):QP
 |.normal,env',H'=>∃s,d=.cont s/\Le h1 env' H' [] (Hp s)
 |.exit id,env',H'=>(∃b,d=.done b)/\ ∃H2,Le h1 env' H' [] H2/\Q (.exit id) env H2
 |.ret,env',H'=>(∃b,d=.done b)/\ ∃H2,Le h1 env' H' [] H2/\Q .ret env H2
theorem QcW{S B:Type}{h1:Nat}{env env':Env}{H':Qd}{Q:QP}{s:S}{d:Ctl S B}{Hp:S->Qd}(e:some (Ctl.cont s)=some d)(h:Le h1 env' H' [] (Hp s)):Qnl h1 env Q d Hp .normal env' H':=⟨s,(Oi e).symm,h⟩
theorem Qbc{P:Program}{h0 N:Nat}{m:Operand}{ps:List Nat}{assign body:Code}{env:Env}{H:Qd}{Q:QP}{f:FuncId}{a g:List A}{Hc:Qd}{T S B:Type}{enc:T->List A}{xs:List T}{step:S->T->Option (Ctl S B)}{t:S}{D:Ctl S B}
  (π:List Nat)(Hp:S->Qd)(h:runL step xs t=some D)(n:Qnj P f g Hc enc nxL xs)(r:∀x,(enc x).length=ps.length)(M:∀args w,(callFunc f args).run P w=.ok (.enter f args) w)
  (W:Nat.ble h0 H.length=true)(hg:opA env m=.fn (.func f) [] a)(hargs:a=Qag (rho π H.length) g)(O:π.map (λp=>H[p]?)=(Hc.map (Q8 (rho π H.length))).map some)(hπ:π.Nodup)(z:(ps.all λp=>Nat.blt p N)=true)
  (j:Le H.length env (Qd0 H π) env (Hp t))
  (i:∀s x d,step s x=some d->(∀b,d=.done b->D=.done b)->TC P H.length N assign (Ql2 ps (enc x) env) (Hp s) λe env1 H1=>e=.normal/\TC P H.length N body env1 H1 (Qnl H.length env Q d Hp))
  (k:∀s,D=.cont s->Q .normal env (Hp s)):TC P h0 N (.rangeFunc m ps.toArray assign body) env H Q:=by
 refine TC.rangeFunc π Hp (λs l=>runL step l s=some D) t (by simp_all) hg hargs O hπ z M n r j h ?_ ?_
 .rintro s l x rem y rfl;obtain⟨d,J,y⟩:=Yq y;refine(i s x d J ?_).mono ?_
  .grind
  .rintro e env1 H1 ⟨V,R⟩;refine⟨V,R.mono ?_⟩;intro L E H2 q;cases L with
   |normal=>
    obtain⟨F,rfl,j⟩:=q;exact⟨Hp F,j,F,y,rfl⟩
   |exit id=>
    obtain⟨_,H3,u,q⟩:=q;exact⟨H3,u,q⟩
   |ret=>
    obtain⟨_,H3,u,q⟩:=q;exact⟨H3,u,q⟩
 .intro s G;exact k s (Oi G).symm
section
variable {T:Type} {X:Ctx T} {P:Program} {h0 N:Nat} {c:Code} {env:Env} {H:Qd} {st:YSt T} {Q:YR T}
def Qf0{S B:Type}(h0:Nat)(E:S->Env)(Hp:S->Qd)(d:Ctl S B)(rest:List T)(Q:YR T):YR T
 |.normal,env,H,st=>∃s,d=.cont s/\Le h0 env H (E s) (Hp s)/\st=.on rest
 |.exit id,env,H,st=>Q (.exit id) env H st
 |.ret,env,H,st=>Q .ret env H st
theorem Qly{S B:Type}{step:S->Option (List T×Ctl S B)}{E:S->Env}{Hp:S->Qd}{m:Nat}{i:S}{p rem:List T}{b:B}(h:QbR step m i=some (p,b))(y:Le h0 env H (E i) (Hp i))
  (body:∀s zs d rest,step s=some (zs,d)->(∀b',d=.done b'->b'=b/\rest=rem)->TCy X P h0 N c (E s) (Hp s) (.on (zs++rest)) (Qf0 h0 E Hp d rest Q)):TCy X P h0 N (.loop c) env H (.on (p++rem)) Q:=by
 refine Qlz (I:=λn env H t=>∃s f,QbR step n s=some (f,b)/\t=.on (f++rem)/\Le h0 env H (E s) (Hp s)) ?_ ⟨i,p,h,rfl,y⟩;rintro n env H t ⟨s,f,a,rfl,j⟩;cases n with
 |zero=>cases a
 |succ n=>
  obtain⟨⟨zs,d⟩,r,a⟩:=Yq a;refine Qpq j ?_;cases d with
  |cont w=>
   obtain⟨⟨u,G⟩,z,a⟩:=Yq a;cases a;rw[Ve];refine(body s zs (.cont w) (u++rem) r (λb' e=>by cases e)).mono ?_;rintro x g H' l q;cases x with
   |normal=>
    obtain⟨F,e,k,rfl⟩:=q;cases e;exact⟨n,Xm n,_,_,z,rfl,k⟩
   |exit id=>exact q
   |ret=>exact q
  |done b'=>
   cases a;refine(body s _ (.done b) rem r (λb' e=>by cases e;exact⟨rfl,rfl⟩)).mono ?_;rintro x g H' l q;cases x with
   |normal=>obtain⟨F,e,_⟩:=q;cases e
   |exit id=>exact q
   |ret=>exact q
def kqY(X:Ctx T)(P:Program)(h0 N:Nat):List Kf->YR T->YR T
 |[],Q=>Q
 |.seq c::k,Q=>SeqY X P h0 N c (kqY X P h0 N k Q)
 |.blo id::k,Q=>BloY id (kqY X P h0 N k Q)
 |.unr c::k,Q=>λ_ _ _ _=>False
@[reducible] def HdY(X:Ctx T)(P:Program)(h0 N:Nat):Cf->List Kf->Env->Qd->YSt T->YR T->Prop
 |.code c,k,env,H,st,Q=>TCy X P h0 N c env H st (kqY X P h0 N k Q)
 |.ops all l,k,env,H,st,Q=>WOy X P h0 N all l env H st (kqY X P h0 N k Q)
 |.out x,k,env,H,st,Q=>kqY X P h0 N k Q x env H st
def QoB:Cf->List Kf->Bool
 |.code (.loop _),_=>false
 |.out _,.unr _::_=>false
 |_,_=>true
theorem Ql3{Tx:TyX}(i:QaU P Tx){c f:Cf}{k d:List Kf}{env env':Env}{H H':Qd}(h:Qgi Tx h0 N c k env H=some (f,d,env',H'))(a:QoB c k=true)(g:HdY X P h0 N f d env' H' st Q):HdY X P h0 N c k env H st Q:=by
 unfold Qgi at h;split at h
 .cases h;exact TCy.seq g
 .cases h;exact TCy.block g
 .cases a
 .cases h;exact TCy.skip g
 .cases h;exact TCy.ret g
 .cases h;exact TCy.exit g
 .cases h;exact TCy.region g
 .grind[TCy.cond,QS]
 .cases h;exact WOy.nil g
 .split at h
  .rename_i q;cases h;exact WOy.step (Qja i q (WO.nil ⟨rfl,g⟩))
  .cases h
 .cases h;exact g
 .cases h;exact g
 .cases h;exact g
 .cases h;exact g
 .split at h
  .rename_i q;cases h;have e:=XO q;subst e;show(bif Nat.beq _ _ then _ else _)
   grind
  .rename_i q;cases h;show(bif Nat.beq _ _ then _ else _)
   grind
 .cases h;exact g
 .cases a
 .cases a
 .cases a
 .cases h
def QkX(Tx:TyX)(h0 N:Nat):Nat->Cf->List Kf->Env->Qd->Option (Cf×List Kf×Env×Qd)
 |0,c,k,env,H=>some (c,k,env,H)
 |n+1,c,k,env,H=>match QoB c k with
  |true=>(match Qgi Tx h0 N c k env H with
   |some (c',k',env',H')=>QkX Tx h0 N n c' k' env' H'
   |none=>none)
  |false=>none
theorem Qes{Tx:TyX}(hT:QaU P Tx):∀(n:Nat) {c c':Cf} {k k':List Kf} {env env':Env} {H H':Qd},QkX Tx h0 N n c k env H=some (c',k',env',H')->HdY X P h0 N c' k' env' H' st Q->HdY X P h0 N c k env H st Q
 |0,c,c',k,k',env,env',H,H',h,g=>by cases h;exact g
 |n+1,c,c',k,k',env,env',H,H',h,g=>by
  unfold QkX at h;split at h
  .rename_i hn;split at h
   .rename_i e;exact Ql3 hT e hn (Qes hT n h g)
   .cases h
  .cases h
theorem TCy.lf{k:List Kf}(h:TC P h0 N c env H (λx env H=>kqY X P h0 N k Q x env H st)):TCy X P h0 N c env H st (kqY X P h0 N k Q):=TCy.lift h
theorem Qpn{all:Array Oper}{o:Oper}{r:List Oper}{d:Nat}{x:T}{l:List T}{e:T->A}{y z:Operand}{a:Array TypeId}(hE:X.enc=λx=>[e x])(h:X.nx=nxL)(i:o.op=.call {callee:=.value y,args:= #[z],argTypes:=a})(f:opA env y=.fn (.yield X.l) [] [])(j:opA env z=e x)(g:YC (e x)=true)
  (m:WOy X P h0 N all r (up env d (.bool true)) H (.on l) Q)(k:WOy X P h0 N all r (up env d (.bool false)) H (.off l) Q)(hg:QB all o env true:=by exact rfl)(hd:o.dst=some d:=by exact rfl)(hNd:Nat.blt d N=true:=by exact rfl):WOy X P h0 N all (o::r) env H (.on (x::l)) Q:=by
 refine WOy.yield (x:=x) (rem:=l) (by rw[h];rfl) hg hd hNd ?_ ?_
 .rw[hE];exact QlW i f j g
 grind
theorem WOy.y2{all:Array Oper}{o:Oper}{r:List Oper}{d:Nat}{x:T}{l:List T}{f h:T->A}{y j k:Operand}{q:Array TypeId}(hE:X.enc=λx=>[f x,h x])(n:X.nx=nxL)(p:o.op=.call {callee:=.value y,args:= #[j,k],argTypes:=q})(m:opA env y=.fn (.yield X.l) [] [])(i:opA env j=f x)(a:opA env k=h x)(g:YC (f x)=true)(e:YC (h x)=true)
  (t:WOy X P h0 N all r (up env d (.bool true)) H (.on l) Q)(s:WOy X P h0 N all r (up env d (.bool false)) H (.off l) Q)(hg:QB all o env true:=by exact rfl)(hd:o.dst=some d:=by exact rfl)(hNd:Nat.blt d N=true:=by exact rfl):WOy X P h0 N all (o::r) env H (.on (x::l)) Q:=by
 refine WOy.yield (x:=x) (rem:=l) (by rw[n];rfl) hg hd hNd ?_ ?_
 .rw[hE];exact QkU p m i a g e
 grind
end
def yl{T R:Type}(x:T)(k:Option (List T×R)):Option (List T×R):=k.bind λp=>some (x::p.1,p.2)
def ap{T B R:Type}(a:Option (List T×B))(k:B->Option (List T×R)):Option (List T×R):=a.bind λp=>(k p.2).bind λq=>some (p.1++q.1,q.2)
theorem yl_ok{T R:Type}{x:T}{k:Option (List T×R)}{a:List T}{v:R}(h:yl x k=some (a,v)):∃zs,k=some (zs,v)/\a=x::zs:=by
 obtain⟨⟨zs,e⟩,f,d⟩:=Yq h
 grind
theorem ap_ok{T B R:Type}{a:Option (List T×B)}{k:B->Option (List T×R)}{d:List T}{v:R}(h:ap a k=some (d,v)):∃y1 b y2,a=some (y1,b)/\k b=some (y2,v)/\d=y1++y2:=by
 obtain⟨⟨y1,b⟩,g,e⟩:=Yq h;obtain⟨⟨y2,i⟩,f,j⟩:=Yq e
 grind
section
variable {T:Type} {X:Ctx T} {P:Program} {h0 N:Nat} {c c':Code} {env:Env} {H:Qd} {st:YSt T} {Q:YR T}
def QnE{β:Type}(h0:Nat)(b:β)(E':β->Env)(H':β->Qd)(rem:List T)(Q:YR T):YR T
 |.normal,env,H,st=>Le h0 env H (E' b) (H' b)/\st=.on rem
 |.exit id,env,H,st=>Q (.exit id) env H st
 |.ret,env,H,st=>Q .ret env H st
theorem Qnb{β:Type}{E':β->Env}{H':β->Qd}(b:β)(rem:List T)(sel keep:List Nat)(nE:β->Env)(nH:β->List (Nat×Blk))(_:∀b,Qm1 sel keep (nE b) (nH b) env H=some (E' b,H' b))(h:TCy X P h0 N c env H st (QnE h0 b E' H' rem Q))(k:∀env H,Le h0 env H (E' b) (H' b)->Q .normal env H (.on rem)):TCy X P h0 N c env H st Q:=
 h.mono λx env' H' st' q=>by
  cases x with
  |normal=>obtain⟨q1,rfl⟩:=q;grind
  |exit id=>exact q
  |ret=>exact q
theorem cutYN{β:Type}{b:β}{E':β->Env}{H':β->Qd}{rem:List T}(h:Le h0 env H (E' b) (H' b)):QnE h0 b E' H' rem Q .normal env H (.on rem):=⟨h,rfl⟩
theorem cutYR{β:Type}{b:β}{E':β->Env}{H':β->Qd}{rem:List T}(h:Q .ret env H st):QnE h0 b E' H' rem Q .ret env H st:=h
theorem Qpp{S B:Type}{step:S->Option (List T×Ctl S B)}{E':S->Env}{H':S->Qd}{m:Nat}{s0:S}{ys rem:List T}{b:B}(sel keep:List Nat)(nE:S->Env)(nH:S->List (Nat×Blk))(h:QbR step m s0=some (ys,b))(_:∀s,Qm1 sel keep (nE s) (nH s) env H=some (E' s,H' s))(hI:Le h0 env H (E' s0) (H' s0))
  (body:∀s zs d rest,step s=some (zs,d)->(∀b',d=.done b'->b'=b/\rest=rem)->TCy X P h0 N c (E' s) (H' s) (.on (zs++rest)) (Qf0 h0 E' H' d rest Q)):TCy X P h0 N (.loop c) env H (.on (ys++rem)) Q:=Qly h hI body
theorem Qpa{S B:Type}{E':S->Env}{H':S->Qd}{s:S}{d:Ctl S B}{zs rest:List T}(e:some (([]:List T),Ctl.cont s)=some (zs,d))(h:Le h0 env H (E' s) (H' s)):Qf0 h0 E' H' d rest Q .normal env H (.on (zs++rest)):=by
 cases e;exact⟨s,rfl,h,rfl⟩
theorem Qo8{S B:Type}{id:Nat}{E':S->Env}{H':S->Qd}{d:Ctl S B}{rest:List T}(h:Q (.exit id) env H st):Qf0 h0 E' H' d rest Q (.exit id) env H st:=h
theorem Qo9{S B:Type}{E':S->Env}{H':S->Qd}{d:Ctl S B}{rest:List T}(h:Q .ret env H st):Qf0 h0 E' H' d rest Q .ret env H st:=h
theorem Oy{S B:Type}{d:Ctl S B}{x b:B}{zs rest rem:List T}(a:∀b',d=.done b'->b'=b/\rest=rem)(h:some (([]:List T),Ctl.done x)=some (zs,d)):zs=[]/\b=x/\rest=rem:=by
 grind
theorem QiT{f:FuncId}{fn:Func}{c:Code}{N:Nat}{a:List A}{H:Qd}{enc:T->List A}{xs:List T}(i:P.funcs[f]?=some fn)(d:fn.body=some c)(j:fn.ntmps=N)(e:Nat.ble (a.length+1) N=true)(g:fn.results= #[])
  (h:∀X:Ctx T,X.enc=enc->X.nx=nxL->TCy X P H.length N c (Qd8 0 (.fn (.yield X.l) [] []::a)) H (.on (xs++[])) EndY):Qnj P f a H enc nxL xs:=by
 grind[QhE]
end
open Go.MapKept
section
variable {fr ro:Nat->Prop} {σ:Sig} {H:Qd} {w:World}
end
end Go.Sw
namespace Go.Sw
open Go.MapKept
def QbE{α β:Type}(ek:α->A)(ev:β->List A)(l:List (α×Option (List β))):List (A×Option (List (List A))):=l.map λp=>(ek p.1,p.2.map (List.map ev))
def Qkb{α β:Type}[DecidableEq α](l:List (α×Option (List β)))(x:α):List (α×Option (List β)):=l.map λp=>bif decide (p.1=x)then(p.1,none)else p
section
variable {P:Program} {kt:TypeId} {α β:Type} [DecidableEq α] {ek:α->A} {ev:β->List A} {ro:Nat->Prop} {w:World} {t k:Nat} (K:Qaa P kt ek)
include K
theorem QkM{x:α}:∀{l:List (α×Option (List β))} {es:List MapEntry},MO ro w t k (QbE ek ev l) es->MO ro w t k (QbE ek ev (Qkb l x)) es
 |[],es,h=>h
 |p::l,es,h=>by
  obtain⟨e,l',rfl,h1,h2,h3⟩:=h;by_cases q:p.1=x
  .refine⟨e,l',rfl,by grind,λrows hr=>?_,QkM (l:=l) h3⟩
   grind
  .refine⟨e,l',rfl,by grind,(by grind),QkM (l:=l) h3⟩
omit K
theorem QdO{x:α}{c:Nat}:∀{l:List (α×Option (List β))} {es:List MapEntry},Qen (QbE ek ev (Qkb l x)) es c->Qen (QbE ek ev l) es c
 |[],es,h=>by cases es<;>exact h.elim
 |p::l,[],h=>h.elim
 |p::l,e::es,h=>by
  rcases h with⟨h1,h2⟩|h
  .by_cases q:p.1=x
   .grind
   .exact .inl ⟨by grind,h2⟩
  .exact .inr (QdO (l:=l) h)
theorem QlS{x:α}:∀{l:List (α×Option (List β))} {es:List MapEntry},QjW (QbE ek ev l) es->QjW (QbE ek ev (Qkb l x)) es
 |[],es,h=>by cases es<;>trivial
 |p::l,[],h=>trivial
 |p::l,e::es,h=>by
  obtain⟨h1,h2⟩:=h;refine⟨λc q1 q2 q3=>?_,QlS (l:=l) h2⟩;by_cases q:p.1=x
  .grind
  .exact h1 c (by grind) q2 (QdO (l:=l) q3)
include K
theorem MO.find:∀{l:List (α×Option (List β))} {es:List MapEntry},MO ro w t k (QbE ek ev l) es->∀(x:α),(es.map (·.key)).Nodup->
  ((∀e:MapEntry,e∈es->e.key≠QO (ek x))->Jj l x=none)/\
  (∀(j:Nat) (e:MapEntry),es[j]?=some e->e.key=QO (ek x)->∃q,Jj l x=some q/\(∀rows,q=some rows->SO ro w t k (rows.map ev) e.val)/\
   ∀c p n cap,q.isSome=true->e.val=.slice (some ⟨c,p,none⟩) n cap->Qen (QbE ek ev l) es c/\(QjW (QbE ek ev l) es->¬Qen (QbE ek ev (Qkb l x)) es c))
 |[],es,h,x,_=>by
  cases(show es=[]from h);exact⟨λ_=>rfl,(by simp)⟩
 |p::l,es,h,x,hn=>by
  obtain⟨e0,l',rfl,h1,h2,h3⟩:=h;have hk:e0.key=QO (ek p.1):=VR.val (K.scl _) h1;simp only[Vf,List.nodup_cons]at hn;obtain⟨a1,a2⟩:=MO.find (l:=l) h3 x hn.2;by_cases hp:p.1=x
  .subst hp;constructor
   .grind
   .intro j e he hx;cases j with
    |zero=>
     simp only[XC,Option.some.injEq]at he;subst he;refine⟨p.2,by simp[Jj],(by grind),λc p' n cap hs hv=>⟨.inl (by grind),λhd hq=>?_⟩⟩;rcases hq with⟨q1,_⟩|hq
     .simp at q1
     .exact hd.1 c (by grind) ⟨p',n,cap,hv⟩ (QdO (l:=l) hq)
    |succ j=>
     grind
  .have e1:Jj (p::l) x=Jj l x:=by simp[Jj,hp]
   rw[e1];constructor
   .grind
   .intro j e he hx;cases j with
    |zero=>
     simp only[XC,Option.some.injEq]at he;subst he;exact absurd (K.inj _ _ (hk.symm.trans hx)) hp
    |succ j=>
     obtain⟨q,g,i,m⟩:=a2 j e (by grind) hx;refine⟨q,g,i,λc p' n cap hs hv=>?_⟩;obtain⟨a,f⟩:=m c p' n cap hs hv;refine⟨.inr a,λhd hq=>?_⟩;rcases hq with⟨q1,d⟩|hq
     .exact hd.1 c (by grind) d a
     .exact f hd.2 hq
end
section
variable {P:Program} {o:Oper} {env:Env} {H:Qd}
variable {T kt et:Nat} {α β:Type} [DecidableEq α] {ek:α->A} {ev:β->List A} {x y:Operand} {i t k:Nat} {l:List (α×Option (List β))} {key:α} {rows:List β}
end
end Go.Sw
namespace Go.Sw
open Go.MapKept
theorem MO.append{ro:Nat->Prop}{w:World}{t k:Nat}:∀{l m:List (A×Option (List (List A)))} {es fs:List MapEntry},MO ro w t k l es->MO ro w t k m fs->MO ro w t k (l++m) (es++fs)
 |[],m,es,fs,h,q=>by cases(show es=[]from h);exact q
 |p::l,m,es,fs,h,q=>by
  obtain⟨e,l',rfl,h1,h2,h3⟩:=h;exact⟨e,l'++fs,rfl,h1,h2,MO.append h3 q⟩
theorem MO.length{ro:Nat->Prop}{w:World}{t k:Nat}:∀{l:List (A×Option (List (List A)))} {es:List MapEntry},MO ro w t k l es->es.length=l.length
 |[],es,h=>by cases(show es=[]from h);rfl
 |p::l,es,h=>by
  obtain⟨e,l',rfl,h1,h2,h3⟩:=h;simp[MO.length h3]
def SlB(v:Value)(c:Nat):Prop:=∃p n cap,v=.slice (some ⟨c,p,none⟩) n cap
section
variable {P:Program} {kt:TypeId} {α β:Type} [DecidableEq α] {ek:α->A} {ev:β->List A} {ro:Nat->Prop} {w:World} {t k:Nat} (K:Qaa P kt ek)
def Qdx{α β:Type}[DecidableEq α](l:List (α×Option (List β)))(x:α)(rows:List β):List (α×Option (List β)):=l.map λp=>bif decide (p.1=x)then(p.1,some rows)else p
include K
theorem Qgs{x:α}{rows:List β}:∀{l:List (α×Option (List β))} {es:List MapEntry},MO ro w t k (QbE ek ev l) es->(∀e∈es,e.key≠QO (ek x))->Qdx l x rows=l
 |[],es,h,q=>rfl
 |p::l,es,h,q=>by
  obtain⟨e,l',rfl,h1,h2,h3⟩:=h;have hk:e.key=QO (ek p.1):=VR.val (K.scl _) h1;have hp:p.1≠x:=(by grind);have:=Qgs (l:=l) h3 (λe he=>q e (by simp[he])) (rows:=rows)
  simp_all[Qdx]
theorem MO.put{x:α}{rows:List β}{v:Value}(r:SO ro w t k (rows.map ev) v):∀{l:List (α×Option (List β))} {es:List MapEntry} {j:Nat} {e:MapEntry},MO ro w t k (QbE ek ev l) es->
  (es.map (·.key)).Nodup->es[j]?=some e->e.key=QO (ek x)->
  MO ro w t k (QbE ek ev (Qdx l x rows)) (es.modify j λe=>{e with key:=QO (ek x),val:=v})/\
  (∀c,Qen (QbE ek ev (Qdx l x rows)) (es.modify j λe=>{e with key:=QO (ek x),val:=v}) c->Qen (QbE ek ev l) es c\/SlB v c)/\
  (QjW (QbE ek ev l) es->(∀c,Qen (QbE ek ev l) es c->¬SlB v c)->QjW (QbE ek ev (Qdx l x rows)) (es.modify j λe=>{e with key:=QO (ek x),val:=v}))
 |[],es,j,e,h,hn,he,hk=>by cases(show es=[]from h);simp at he
 |p::l,es,j,e,h,hn,he,hk=>by
  obtain⟨e0,l',rfl,h1,h2,h3⟩:=h;have hk0:e0.key=QO (ek p.1):=VR.val (K.scl _) h1;simp only[Vf,List.nodup_cons]at hn;cases j with
  |zero=>
   simp only[XC,Option.some.injEq]at he;subst he;have hp:p.1=x:=K.inj _ _ (hk0.symm.trans hk);simp only[List.modify_zero_cons];have e0':Qdx l x rows=l:=Qgs K h3 λe he z=>hn.1 (by rw[hk, <- z];exact VC he);have e1:Qdx (p::l) x rows=(p.1,some rows)::l:=by
    have:Qdx (p::l) x rows=(p.1,some rows)::Qdx l x rows:=by simp[Qdx,hp]
    rw[this,e0']
   rw[e1];refine⟨⟨_,l',rfl,?_,?_,h3⟩,?_,?_⟩
   .show VR ro [] w (ek p.1) (QO (ek x));rw[<- hp];exact Qdg (K.scl _)
   .intro f s;cases s;exact r
   .rintro c (⟨_,q⟩|q)
    .exact .inr q
    .exact .inl (.inr q)
   .rintro⟨n,d⟩ a;exact⟨λc _ q z=>a c (.inr z) q,d⟩
  |succ j=>
   simp only[XD]at he;have hp:p.1≠x:=by
    intro q;refine hn.1 (Xe.2 ⟨e,VD he,?_⟩);rw[hk,hk0,q]
   simp only[List.modify_succ_cons];obtain⟨y,g,u⟩:=MO.put r h3 hn.2 he hk;have e1:Qdx (p::l) x rows=p::Qdx l x rows:=by simp[Qdx,hp]
   rw[e1];refine⟨⟨_,_,rfl,h1,h2,y⟩,?_,?_⟩
   .rintro c (q|q)
    .exact .inl (.inl q)
    .exact(g c q).imp .inr id
   .rintro⟨n,d⟩ a;refine⟨λc m i z=>?_,u d λc B=>a c (.inr B)⟩;rcases g c z with z|z
    .exact n c m i z
    .exact a c (.inl ⟨m,i⟩) z
end
section
variable {P:Program} {o:Oper} {env:Env} {H:Qd}
variable {T kt et:Nat} {α β:Type} [DecidableEq α] {ek:α->A} {ev:β->List A} {x y zz:Operand} {i j t k n:Nat} {l m:List (α×Option (List β))} {key:α} {rows:List β}
end
end Go.Sw
namespace Go.Sw
open Go.MapKept
section
variable {fr ro:Nat->Prop} {σ:Sig} {H:Qd} {w:World}
theorem MO.er{t k:Nat}:∀{es:List (A×Option (List (List A)))} {l:List MapEntry},MO ro w t k es l->ER ro [] w (es.map λe=>(e.1,.any)) l
 |[],_,h=>h
 |x::r,_,⟨e,l',h1,h2,h3,h4⟩=>⟨e,l',h1,h2,trivial,MO.er h4⟩
end
section
variable {P:Program} {o:Oper} {env:Env} {H:Qd} {T kt et i t k:Nat} {x:Operand} {es:List (A×Option (List (List A)))}
end
section
variable {P:Program} {o:Oper} {env:Env} {H:Qd}
variable {T kt et:Nat} {α β:Type} [DecidableEq α] {ek:α->A} {ev:β->List A} {x y zz:Operand} {i j t k n:Nat} {l m:List (α×Option (List β))} {key:α} {rows:List β}
end
end Go.Sw
namespace Go.Sw
open Go.MapKept
section
variable {P:Program} {o:Oper} {env:Env} {H:Qd}
variable {T kt et:Nat} {α β:Type} [DecidableEq α] {ek:α->A} {ev:β->List A} {x y zz:Operand} {i j t k n:Nat} {l m:List (α×Option (List β))} {key:α} {rows:List β}
end
end Go.Sw
namespace Go.Sw
abbrev Kat:=List (Nat×Nat×Nat)
def Ql1:Nat->Nat->List (Nat×Nat)
 |lo,0=>[(lo,lo)]
 |lo,n+1=>(lo,lo)::Ql1 (lo+1) n
def rgK(p:Nat×Nat×Nat):List (Nat×Nat):=bif Nat.beq p.1 1 then[(p.2.1,p.2.1+1)]else Ql1 p.2.1 (p.2.2-p.2.1)
def plK(cat:Kat):List (List (Nat×Nat)):=cat.map rgK
def rqK(bs:List Nat)(cat:Kat):List (List Nat):=cat.map λp=>bs.take p.2.1
def hsK(cat:Kat):List Bool:=cat.map λp=>Nat.beq p.1 1
def msK(bs:List Nat):List (List Nat):=(List.range (bs.length+1)).map bs.take
theorem QgX:∀(n lo:Nat),∀p∈Ql1 lo n,p.1=p.2
 |0,lo,p,h=>by cases h with|head=>rfl|tail _ h=>cases h
 |n+1,lo,p,h=>by
  rcases X3.1 h with rfl|h
  .rfl
  .exact QgX n _ p h
section
variable {P:Program} {T:TyX} {h0 N m:Nat} {bs:List Nat} {cat:Kat} {l:List Oper} {ds:List Nat} {env:Env} {H:Qd} {Hs:List Qd} {Q:QP} {K:List Oper->Env->Qd->Prop}
def DobK(P:Program)(N:Nat)(cat:Kat)(l:List Oper)(ds:List Nat)(env:Env)(n:Nat)(Hs:List Qd)(zs:List A)(j:Nat):Prop:=
 ∀p∈(plK cat).getD j [],JC P N l ds zs env n n j (Hs.getD p.1 []) (Hs.getD p.2 [])
def DK(P:Program)(N m:Nat)(bs:List Nat)(cat:Kat)(l:List Oper)(ds:List Nat)(env:Env)(n:Nat)(K:List Oper->Env->Qd->Prop)(Hs:List Qd)(X:Qd)(r:List Oper)(xs:List A):Prop:=
 r=l.drop xs.length->∃ys Zs Y,xs.length+ys.length=m/\Hs.length+Zs.length=bs.length/\((∀Z∈Zs,n<=Z.length)/\(Hs.reverse++X::Zs).getD bs.length []=Y)/\(∀j,xs.length<=j->j<m->DobK P N cat l ds env n (Hs.reverse++X::Zs) (xs++ys) j)/\K (l.drop m) (Qaq ds (xs++ys) env) Y
theorem Qpu{d:List A}{n:Nat}{Zs:List Qd}(f:cat.length=m)(t:∀j,0<=j->j<m->DobK P N cat l ds env n Zs d j):QhK P N l ds d env n (n+0) 0 ((plK cat).map λq=>q.map λp=>(Zs.getD p.1 [],Zs.getD p.2 [])):=by
 refine QhJ _ 0 λi s a p k=>?_;rw[Xn]at a;cases e:(plK cat)[i]? with
 |none=>grind
 |some q=>
  rw[e]at a;cases a;obtain⟨r,h,rfl⟩:=Xe.1 k;have g:i<m:=by
   grind[plK]
  have:=t i (XS _) g r (by grind)
  grind
theorem QnC{id:Nat}(m:Nat)(d:List Nat)(cat:Kat)(n:P.follows .mixedOrders=true)(u:Qd9 l m N (Qa9 m 0 l) (hsK cat) (rqK d cat) (msK d) (plK cat)=true)(f:Nat.beq cat.length m=true)(g:Nat.ble h0 H.length=true)
  (h:DK P N m d cat l (Qa9 m 0 l) env H.length (λr e H=>WO P h0 N l.toArray r e H Q) [] H l []):TC P h0 N (.region id l.toArray true) env H Q:=by
 obtain⟨s,Zs,Y,q,p,t,k,i⟩:=h rfl;simp only[List.length_nil,Xu,Vd,List.reverse_nil]at q p t k i;have a:=XO f;have j:(msK d).length=d.length+1:=by simp[msK]
 refine Jb m 0 _ _ _ _ _ s (H::Zs) Y n u (by grind) (by simp_all) g ?_ (by simp) (by grind) (Qpu a k) (by simp[plK,a]) i
 simp_all
variable {n:Nat} {X X1:Qd} {xs:List A} {o:Oper} {r:List Oper} {x:A} {d:Nat}
theorem DK.done(d:Nat.beq xs.length m=true)(a:Nat.beq Hs.length bs.length=true)(h:K r (Qaq ds xs env) X):DK P N m bs cat l ds env n K Hs X r xs:=by
 intro f;have e:=XO d;have k:=XO a;subst f;refine⟨[],[],X,by simpa using e,by omega,⟨(λZ hZ=>by cases hZ),?_⟩,λj g i=>by omega,?_⟩
 .grind
 grind
theorem DK.add(q:∀ys Zs,l[xs.length]?=some o->DobK P N cat l ds env n (Hs.reverse++X::Zs) (xs++x::ys) xs.length)(k:DK P N m bs cat l ds env n K Hs X r (xs++[x])):DK P N m bs cat l ds env n K Hs X (o::r) xs:=by
 intro h;obtain⟨t,g⟩:=Qba h;obtain⟨ys,Zs,Y,f,d,e,i,a⟩:=k (by grind);simp only[XZ,XX,List.length_nil,Ve,VG,Vd]at f i a;refine⟨x::ys,Zs,Y,by grind,d,e,λj s p=>?_,a⟩
 grind
theorem QeL{Zs:List Qd}{zs:List A}{j:Nat}{c:Nat×Nat×Nat}(d:Y2 cat j=some c)(h:∀p∈rgK c,JC P N l ds zs env n n j (Zs.getD p.1 []) (Zs.getD p.2 [])):DobK P N cat l ds env n Zs zs j:=by
 intro p a
 grind[Qaz,plK]
theorem Qn2{Zs:List Qd}{c:Nat}(a:Nat.beq c Hs.length=true):(Hs.reverse++X::Zs).getD c []=X:=by
 simp_all
theorem DK.wo{c:Nat}(h:WO P X.length N l.toArray [o] (Yn (Qh o) 0 ds xs env) X (Y8 (up (Yn (Qh o) 0 ds xs env) d x) X))(k:DK P N m bs cat l ds env n K Hs X r (xs++[x]))
  (e:Y2 cat xs.length=some (0,c,c):=by exact rfl)(hd:o.dst=some d:=by exact rfl)(hcH:Nat.beq c Hs.length=true:=by exact rfl):DK P N m bs cat l ds env n K Hs X (o::r) xs:=
 .add (λys Zs ho=>QeL e λp a=>by
  have:p=(c,c):=by
   change p∈Ql1 c (c-c)at a;rw[Nat.sub_self]at a;exact Vx.1 a
  grind[Qn2,Qaw,Jf]) k
theorem DK.wa{lo hi:Nat}(h:∀X,WO P X.length N l.toArray [o] (Yn (Qh o) 0 ds xs env) X (Y8 (up (Yn (Qh o) 0 ds xs env) d x) X))(k:DK P N m bs cat l ds env n K Hs X r (xs++[x]))
  (f:Y2 cat xs.length=some (0,lo,hi):=by exact rfl)(hd:o.dst=some d:=by exact rfl):DK P N m bs cat l ds env n K Hs X (o::r) xs:=
 .add (λys Zs ho=>QeL f λp a=>by
  have e:p.1=p.2:=QgX _ _ p a
  grind[Qaw,Jf]) k
theorem DK.op{c u:Nat}(h:WO P X.length N l.toArray [o] (Yn (Qh o) 0 ds xs env) X (Y8 (up (Yn (Qh o) 0 ds xs env) d x) X1))(k:DK P N m bs cat l ds env n K (X::Hs) X1 r (xs++[x]))(E:Nat.ble n X1.length=true:=by exact rfl)
  (hc:Y2 cat xs.length=some (1,c,u):=by exact rfl)(hd:o.dst=some d:=by exact rfl)(hcH:Nat.beq c Hs.length=true:=by exact rfl):DK P N m bs cat l ds env n K Hs X (o::r) xs:=by
 intro w;obtain⟨G,s⟩:=Qba w;obtain⟨t,Zs,Y,i,g,a,z,e⟩:=k (by grind);simp only[XZ,XX,List.length_nil,Ve,VG,Vd,List.reverse_cons]at i g a z e;refine⟨x::t,X1::Zs,Y,by grind,by grind,⟨λZ f=>?_,a.2⟩,λj F B=>?_,e⟩
 .rcases X3.1 f with rfl|f
  .simp_all
  grind
 .rcases Vy xs.length j with q|q
  .grind
  .obtain rfl:j=xs.length:=by omega
   refine QeL hc λp y=>?_;have:p=(c,c+1):=Vx.1 y
   grind[Nat.eq_of_beq_eq_true,Qaw,Jf]
def Qe2(T:TyX)(N m:Nat)(cat:Kat)(l:List Oper)(ds:List Nat)(env:Env)(n:Nat):Nat->Nat->Nat->List Qd->Qd->List Oper->List A->Option (List Qd×List Oper×List A)
 |0,_,_,Hs,X,r,xs=>some (Hs,r,xs)
 |_+1,_,_,_,_,[],_=>none
 |k+1,i,j,Hs,X,o::r,xs=>match o.dst with
  |none=>none
  |some d=>match Nat.blt d N with
   |false=>none
   |true=>match Y6 ⟨l⟩ o (Yn (Qh o) 0 ds xs env)with
    |none=>none
    |some false=>(match Qdf xs (.tup [])with
      |.mk xs'=>match Y2 cat i with
       |some (0,_,_)=>Qe2 T N m cat l ds env n k (i+1) j Hs X r xs'
       |some (1,c,_)=>(match Nat.beq c j,Nat.ble n X.length with
        |true,true=>Qe2 T N m cat l ds env n k (i+1) (j+1) (X::Hs) X r xs'
        |_,_=>none)
       |_=>none)
    |some true=>match Y2 cat i with
     |some (0,lo,hi)=>(match Qds T o (Yn (Qh o) 0 ds xs env) []with
      |some x=>(match Qdf xs x with
       |.mk xs'=>Qe2 T N m cat l ds env n k (i+1) j Hs X r xs')
      |none=>match Nat.beq lo hi,Nat.beq lo j with
       |true,true=>(match Qds T o (Yn (Qh o) 0 ds xs env) X with
        |none=>none
        |some x=>match Qdf xs x with
         |.mk xs'=>Qe2 T N m cat l ds env n k (i+1) j Hs X r xs')
       |_,_=>none)
     |_=>none
theorem QbL(hT:QaU P T):∀(k i j:Nat) {Hs Hs':List Qd} {r r':List Oper} {xs xs':List A},i=xs.length->j=Hs.length->Qe2 T N m cat l ds env n k i j Hs X r xs=some (Hs',r',xs')->DK P N m bs cat l ds env n K Hs' X r' xs'->DK P N m bs cat l ds env n K Hs X r xs
 |0,i,j,Hs,Hs',r,r',xs,xs',_,_,h,k=>by cases h;exact k
 |k0+1,i,j,Hs,Hs',[],r',xs,xs',_,_,h,k=>by cases h
 |k0+1,i,j,Hs,Hs',o::r,r',xs,xs',hi,hj,h,k=>by
  subst hi hj;unfold Qe2 at h;split at h
  .cases h
  .rename_i d hd;split at h
   .cases h
   .rename_i q2;split at h
    .cases h
    .rename_i hw;simp only[Jp]at h;split at h
     .rename_i lo hi' q0;exact .wa (λX=>WO.skip (QR hw) hd q2 (WO.nil Y8.mk)) (QbL hT k0 _ _ (by simp) rfl h k) q0 hd
     .rename_i c c' q0;split at h
      .rename_i q1 q3;exact .op (WO.skip (QR hw) hd q2 (WO.nil Y8.mk)) (QbL hT k0 _ _ (by simp) (by simp) h k) q3 q0 hd q1
      .cases h
     .cases h
    .rename_i hw;split at h
     .rename_i lo hi' q0;split at h
      .rename_i x hv;simp only[Jp]at h;exact .wa (λX=>YP (QR hw) hd q2 (Qas hT (QeP hv)) (WO.nil Y8.mk)) (QbL hT k0 _ _ (by simp) rfl h k) q0 hd
      .split at h
       .rename_i q1 q3;split at h
        .cases h
        .rename_i x hv;simp only[Jp]at h;obtain rfl:=XO q1;exact .wo (YP (QR hw) hd q2 (Qas hT hv) (WO.nil Y8.mk)) (QbL hT k0 _ _ (by simp) rfl h k) q0 hd q3
       .cases h
     .cases h
theorem DK.v(h:OpV P o (Yn (Qh o) 0 ds xs env) X x)(k:DK P N m bs cat l ds env n K Hs X r (xs++[x])){c:Nat}(hg:Y6 ⟨l⟩ o (Yn (Qh o) 0 ds xs env)=some true:=by exact rfl)
  (hd:o.dst=some d:=by exact rfl)(hN:Nat.blt d N=true:=by exact rfl)(hc:Y2 cat xs.length=some (0,c,c):=by exact rfl)(hcH:Nat.beq c Hs.length=true:=by exact rfl):DK P N m bs cat l ds env n K Hs X (o::r) xs:=
 .wo (YP (QR hg) hd hN h (WO.nil Y8.mk)) k hc hd hcH
def allV(T:TyX)(o:Oper)(e:Env)(x:A):Nat->List Qd->Prop
 |0,_=>True
 |k+1,Y::r=>Qds T o e Y=some x/\allV T o e x k r
 |_+1,[]=>False
theorem Qj1:∀(n lo:Nat),∀p∈Ql1 lo n,lo<=p.1/\p.1<=lo+n
 |0,lo,p,h=>by cases h with|head=>omega|tail _ h=>cases h
 |n+1,lo,p,h=>by
  rcases X3.1 h with rfl|h
  .omega
  .have:=Qj1 n _ p h;omega
def allW(P:Program)(N:Nat)(l:List Oper)(o:Oper)(e:Env)(d:Nat)(x:A):Nat->List Qd->Prop
 |0,_=>True
 |k+1,Y::r=>WO P Y.length N l.toArray [o] e Y (Y8 (up e d x) Y)/\allW P N l o e d x k r
 |_+1,[]=>False
theorem QkG{e:Env}:∀{k:Nat} {r:List Qd},allW P N l o e d x k r->∀j,j<k->WO P (r.getD j []).length N l.toArray [o] e (r.getD j []) (Y8 (up e d x) (r.getD j []))
 |0,_,_,j,hj=>(by omega)
 |k+1,[],h,_,_=>h.elim
 |k+1,Y::r,h,0,_=>h.1
 |k+1,Y::r,h,j+1,hj=>by
  have:=QkG h.2 j (by omega)
  grind
theorem Qi2{lo hi:Nat}(h:allW P N l o (Yn (Qh o) 0 ds xs env) d x (hi+1-lo) (X::Hs))(k:DK P N m bs cat l ds env n K Hs X r (xs++[x]))
  (j:Y2 cat xs.length=some (0,lo,hi):=by exact rfl)(hd:o.dst=some d:=by exact rfl)(hcH:Nat.beq hi Hs.length=true:=by exact rfl)(hle:Nat.ble lo hi=true:=by exact rfl):DK P N m bs cat l ds env n K Hs X (o::r) xs:=
 .add (λys Zs ho=>QeL j λp f=>by
  have e:p.1=p.2:=QgX _ _ p f;have a:=XP hle;have s:lo<=p.1/\p.1<=lo+(hi-lo):=Qj1 (hi-lo) lo p f;have i:=XO hcH;rw[<- e];have q:=QkG h (Hs.length-p.1) (by omega);have g:(Hs.reverse++X::Zs).getD p.1 []=(X::Hs).getD (Hs.length-p.1) []:=by
   grind
  rw[g];exact Qaw ho Jf q hd) k
theorem DK.vs(g:QaU P T){lo hi:Nat}(h:allV T o (Yn (Qh o) 0 ds xs env) x (hi+1-lo) (X::Hs))(k:DK P N m bs cat l ds env n K Hs X r (xs++[x]))
  (p:Y2 cat xs.length=some (0,lo,hi))(f:o.dst=some d)(e:Nat.beq hi Hs.length=true)(hg:Y6 ⟨l⟩ o (Yn (Qh o) 0 ds xs env)=some true)(j:Nat.blt d N=true)(a:Nat.ble lo hi=true):DK P N m bs cat l ds env n K Hs X (o::r) xs:=by
 refine Qi2 ?_ k p f e a;generalize hi+1-lo=c at h;generalize X::Hs=L at h
 induction c generalizing L with
 |zero=>trivial
 |succ c i=>
  cases L with
  |nil=>exact h.elim
  |cons Y L=>exact⟨YP (QR hg) f j (Qas g h.1) (WO.nil Y8.mk),i L h.2⟩
end
def room(n:Int):Option Nat:=bif decide (0<n)&&decide (n<=4294967296)then some n.toNat else none
section
variable {P:Program} {o:Oper} {env:Env} {H:Qd}
theorem Qnt{a i:Nat}{x x':Blk}(d:H[i]?=some x)(e:x=x'):Le a env H env (H.set i x'):=by
 grind[List.set_getElem_self,Le.refl]
theorem RL.put{ro:Nat->Prop}{σ:Sig}{w:World}{k:Nat}:∀{a:Nat} {es fs:List (List A)} {l m:List Value},RL ro σ w k es l->a+fs.length<=es.length->Sw.allK k fs->LR ro σ w fs.flatten m->(∀v∈m,Qx v)->
  RL ro σ w k (es.take a++fs++es.drop (a+fs.length)) (Sw.splice l (a*k) m)
 |0,es,[],l,m,h,hn,hk,hm,hp=>by
  obtain rfl:m=[]:=hm;simpa[Sw.splice]using h
 |0,[],f::fs,l,m,h,hn,hk,hm,hp=>by simp at hn
 |0,c::es,f::fs,l,m,⟨l1,l2,h1,h2,h3,h4⟩,hn,hk,hm,hp=>by
  subst h1;have hl1:=h3.1.length;have hml:=hm.length;rw[Vh,XZ]at hml;have e1:m.take k++m.drop k=m:=Xx _ _;have q1:LR ro σ w f (m.take k):=by have:=hm.take k;rwa [Vh,X4 (by rw[hk.1];omega),VE (by rw[hk.1];omega)]at this
  have g:LR ro σ w fs.flatten (m.drop k):=by have:=hm.drop k;rwa [Vh,X5 (by rw[hk.1];omega),List.drop_of_length_le (by rw[hk.1];omega),Vd]at this
  have d:=RL.put (a:=0) h4 (by grind) hk.2 g (λv e=>hp v (List.mem_of_mem_drop e));simp only[List.take_zero,Vd,Xu,Nat.zero_mul,Sw.splice]at d⊢;refine⟨m.take k,m.drop k++l2.drop (m.drop k).length,?_,hk.1,⟨q1,λv e=>hp v (List.mem_of_mem_take e)⟩,by simp_all⟩;have j:k<=m.length:=by rw[hml,hk.1];omega
  rw[<- Ve,e1];congr 1
  grind[List.drop_length_add_append]
 |a+1,[],fs,l,m,h,hn,hk,hm,hp=>by simp at hn
 |a+1,c::es,fs,l,m,⟨l1,l2,h1,h2,h3,h4⟩,hn,hk,hm,hp=>by
  subst h1;have hl1:=h3.1.length;have d:=RL.put (a:=a) h4 (by simp at hn;omega) hk hm hp;refine⟨l1,Sw.splice l2 (a*k) m,?_,h2,h3,?_⟩
  .have e1:(a+1)*k=l1.length+a*k:=by rw[Xl];omega
   unfold Sw.splice;rw[e1,X8,show l1.length+a*k+m.length=l1.length+(a*k+m.length)from by omega,X7];simp
  .have i:a+1+fs.length=(a+fs.length)+1:=by omega
   simpa[i]using d
def QlB(P:Program)(H:Qd)(x:A)(k:Nat)(es:List (List A)):Prop:=
 ∀fr ro σ w v,Sim fr ro σ H w->VR ro σ w x v->(∃a c,v=.slice a es.length c)/\
  ∀j,j<=es.length->allK k (es.take j)/\ ∃l,(Builtin.firstCells k j v).run P w=.ok l.toArray w/\LR ro [] w (es.take j).flatten l/\ ∀v∈l,Qx v
theorem Qe0{fr ro:Nat->Prop}{σ:Sig}{w:World}{k j b off n c:Nat}{es:List (List A)}(h:RR ro [] w b k es off)(e:j<=es.length):
  allK k (es.take j)/\ ∃l,(Builtin.firstCells k j (.slice (some ⟨b,off,none⟩) n c)).run P w=.ok l.toArray w/\LR ro [] w (es.take j).flatten l/\ ∀v∈l,Qx v:=by
 obtain⟨g,d,a⟩:=(h.take j).flat;rw[Xw,Xz e]at a;obtain⟨l,f,i⟩:=Qa4 (P:=P) (n:=j) (c:=c) g a;refine⟨d,l,?_,i⟩;exact f w rfl
theorem QcB{k n c:Nat}{a:Option Addr}{w:World}:(Builtin.firstCells k 0 (.slice a n c)).run P w=.ok #[] w:=by
 cases a<;>simp[Builtin.firstCells,loadCells,loadCellsFrom,go_sem]
theorem Qos{α:Type}{e:α->List A}{k:Nat}{l:List α}:QlB P H (.rsl k (l.map e)) k (l.map e):=by
 intro fr m σ w v s ⟨a,c,h1,h2,d⟩;subst h1;refine⟨⟨a,c,rfl⟩,λj f=>?_⟩;rcases d with d|⟨b,h,rfl,i,g⟩
 .rw[d]at f⊢;obtain rfl:j=0:=by grind
  exact⟨trivial,[],QcB,rfl,by simp⟩
 .exact Qe0 (fr:=fr) (σ:=σ) g f
theorem QlB.osl{i s n k t:Nat}{es a:List (List A)}(E:H[i]?=some (.row t k es))(he:(es.drop s).take n=a)(J:s+n<=es.length):QlB P H (.osl i s n k) k a:=by
 intro fr N σ w v sm h;have r:a.length=n:=by grind
 rcases h with⟨rfl,rfl⟩|⟨b,p,d,L,m,u,rfl,q,⟨F,y⟩,M,G⟩
 .have e:a=[]:=(by grind);subst e;refine⟨⟨none,0,rfl⟩,λj x=>?_⟩;obtain rfl:j=0:=by omega
  exact⟨trivial,[],QcB,rfl,by simp⟩
 .rw[r];refine⟨⟨_,d,rfl⟩,λj x=>?_⟩;obtain⟨l,z,g⟩:=sm.blk i _ _ u E;have f:=((YF (pre:=[]) (by simpa using z) g).drop s).take n;rw[he]at f;by_cases B:0<d
  .obtain rfl:=q B;simpa using Qe0 (P:=P) (fr:=fr) (σ:=σ) (n:=n) (c:=d) f (by omega)
  .obtain rfl:j=0:=by omega
   exact⟨trivial,[],QcB,rfl,by simp⟩
theorem Qot{α:Type}{e:α->List A}{b t k:Nat}{l r:List α}{a c:Int}(h:slc l a c=some r)(f:H[b]?=some (.row t k (l.map e)):=by exact rfl):QlB P H (.osl b (0+a.toNat) (c.toNat-a.toNat) k) k (r.map e):=by
 obtain⟨j,i,g,d⟩:=QbJ h;refine QlB.osl f ?_ (by grind);rw[<- d, <- List.map_drop, <- List.map_take,Xu,List.drop_take]
def cpy{α:Type}(l:List α)(a c:Int)(m:List α):Option (List α):=some (l.take a.toNat++m.take (c.toNat-a.toNat)++l.drop (a.toNat+min m.length (c.toNat-a.toNat)))
theorem QeE{α:Type}{l r l' m:List α}{a c:Int}(h:slc l a c=some r)(d:cpy l a c m=some l'):l.length=l'.length:=by
 obtain⟨f,g,e,_⟩:=QbJ h;rw[<- XW d]
 grind
theorem QfL{α:Type}{l l' m:List α}(a:cpy l 0 (l.length:Int) m=some l'):l.length=l'.length:=by
 rw[<- XW a]
 grind
theorem QgP{α:Type}{e:α->List A}{c:Call}{T T' et k b a n t:Nat}{x y:Operand}{ya:A}{l m l':List α}(ab:a+n<=l.length)(ad:l.take a++m.take n++l.drop (a+min m.length n)=l')(hT:∀w,(underlying T).run P w=.ok (.slice et) w)(z:∀w,(sizeOf et).run P w=.ok k w)(V:QlB P H ya k (m.map e))
  (ho:o.op=.call c)(hc:c={callee:=.builtin .copy,args:= #[x,y],argTypes:= #[T,T']})(hx:opA env x=.osl b a n k)(hH:H[b]?=some (.row t k (l.map e)))(M:opA env y=ya):
  OpH P o env H (.int .i64 (min m.length n:Nat)) (H.set b (.row t k (l'.map e))):=by
 intro Q E σ N ac w r;have q:=Qk r x;rw[hx]at q;have h2:=Qk r y;rw[M]at h2;obtain⟨⟨ay,cy,L⟩,q2⟩:=V Q E σ w _ r.sim h2;rw[XY]at L q2;obtain⟨q3,G,J,Y,q6⟩:=q2 (min m.length n) (Nat.min_le_left _ _);have i:((m.map e).take (min m.length n)).length=min m.length n:=by simp
 have X:l'.map e=(l.map e).take a++(m.map e).take (min m.length n)++(l.map e).drop (a+((m.map e).take (min m.length n)).length):=by
  grind[List.map_take,List.map_drop]
 have f:(Builtin.copy_ #[T,T'] o.type #[ac.eval x,ac.eval y]).run P w=.ok (.int .i64 (min m.length n:Nat)) w->min m.length n=0->
   ∃v w' ro' τ,(execOp ac.eval o).run P w=.ok (.value v) w'/\VR ro' (σ++τ) w' (.int .i64 (min m.length n:Nat)) v/\Sim Q ro' (σ++τ) (H.set b (.row t k (l'.map e))) w'/\Qi Q E w ro' w':=by
  intro h hz;have V:H.set b (.row t k (l'.map e))=H:=by
   have:l'.map e=l.map e:=by simp_all
   grind[List.set_getElem_self]
  refine⟨_,w,E,[],?_,rfl,by simpa[V]using r.sim,Qi.refl _ _ _⟩;subst hc;generalize ac.eval=ρ at*
  simp_all[execOp,resolve,invoke,builtin]
 have B:∀j:Nat,goInt j=.int .i64 j:=λ_=>rfl;rcases q with⟨F,q⟩|⟨bb,p,ae,t',mm,q,h3,h4,⟨h5,aa⟩,h6,h7⟩
 .refine f ?_ (by omega);rw[L]at J⊢;rw[q];have:Nat.min m.length 0=min m.length n:=by rw[F]
  simp only[Builtin.copy_,XE,XC,XD,Vi,hT,z,Result.andThen,Builtin.lenOf,Vj,this,J,B]
 .have d:∀R:Result Unit,(storeCells ⟨bb,p,none⟩ G).run P w=R->(Builtin.copy_ #[T,T'] o.type #[ac.eval x,ac.eval y]).run P w=R.andThen λ_ w=>.ok (.int .i64 (min m.length n:Nat)) w:=by
   intro R hR;rw[L]at J⊢;rw[h3];have:Nat.min m.length n=min m.length n:=rfl;simp only[Builtin.copy_,XE,XC,XD,Vi,hT,z,Result.andThen,Builtin.lenOf,Vj,this,J,B,hR]
  by_cases F:min m.length n=0
  .have s:G=[]:=by
    have:=Y.length;rw[F]at this;exact VF.1 (by simpa using this)
   refine f ?_ F;have:=d (.ok () w) (by rw[s];rfl);rw[this];rfl
  .obtain rfl:=h4 (by omega);obtain⟨l0,g1,g2⟩:=r.sim.blk b _ _ q hH;have W:=g2.length;have s:=Y.length;rw[Yr q3,i]at s;have af:a*k+(min m.length n)*k<=l0.length:=by
    rw[<- Xy];refine XT (XA k ?_) W;rw[XY];omega
   have u:=Yd (P:=P) (vs:=G) (a*k) 0 g1 (by omega) q6;rw[Xv]at u;have h:=d _ u;have g:=r.sim.set (x':=.row t k (l'.map e)) (obj:=.cells (splice l0 (a*k) G).toArray t (0,0)) q hH rfl
    (λy M=>Jz g1 (Yb (by omega)) y M)
    (λex O=>⟨_,O,by
     rw[X];exact(RL.put g2 (by rw[i,XY];omega) q3 Y q6).mono ex.nil⟩)
   refine⟨_,_,E,[],?_,rfl,by simpa using g.1,g.2⟩;subst hc;generalize ac.eval=ρ at*;simp only[execOp,ho,resolve,Vi,Vj,Result.andThen,invoke,builtin,XG,Vf,Vg,h]
theorem QlL{α:Type}{e:α->List A}{c:Call}{T T' et k b t:Nat}{x y:Operand}{d:A}{l m l':List α}(h:cpy l 0 (l.length:Int) m=some l')(f:∀w,(underlying T).run P w=.ok (.slice et) w)(a:∀w,(sizeOf et).run P w=.ok k w)(i:QlB P H d k (m.map e))
  (g:o.op=.call c:=by exact rfl)(hc:c={callee:=.builtin .copy,args:= #[x,y],argTypes:= #[T,T']}:=by exact rfl)(hx:opA env x=.osl b 0 l.length k:=by exact rfl)(hH:H[b]?=some (.row t k (l.map e)):=by exact rfl)(hy:opA env y=d:=by exact rfl):
  OpH P o env H (.int .i64 (min m.length l.length:Nat)) (H.set b (.row t k (l'.map e))):=by
 refine QgP (by omega) ?_ f a i g hc hx hH hy;rw[<- XW h];rfl
theorem QlM{α:Type}{e:α->List A}{c:Call}{T T' et k b t:Nat}{x y:Operand}{f:A}{l n m l':List α}{i j:Int}(hi:slc l i j=some n)(h:cpy l i j m=some l')(g:∀w,(underlying T).run P w=.ok (.slice et) w)(d:∀w,(sizeOf et).run P w=.ok k w)(p:QlB P H f k (m.map e))
  (q:o.op=.call c:=by exact rfl)(hc:c={callee:=.builtin .copy,args:= #[x,y],argTypes:= #[T,T']}:=by exact rfl)(hx:opA env x=.osl b (0+i.toNat) (j.toNat-i.toNat) k:=by exact rfl)(hH:H[b]?=some (.row t k (l.map e)):=by exact rfl)(hy:opA env y=f:=by exact rfl):
  OpH P o env H (.int .i64 (min m.length (j.toNat-i.toNat):Nat)) (H.set b (.row t k (l'.map e))):=by
 obtain⟨u,r,s,z⟩:=QbJ hi;refine QgP (a:=i.toNat) (by omega) (XW h) g d p q hc ?_ hH hy
 grind
end
open Go.MapKept
section
variable {fr ro ro':Nat->Prop} {σ:Sig} {H:Qd} {w:World}
end
end Go.Sw
namespace Go.Sw
def Qki{α:Type}(l:List α)(o:Option (List α)):Option (List α):=o.bind λr=>bif Nat.beq l.length r.length then some r else none
theorem Qih{α:Type}{l r:List α}{o:Option (List α)}(h:Qki l o=some r):o=some r/\l.length=r.length:=by
 cases o with
 |none=>cases h
 |some x=>
  have a:(bif Nat.beq l.length x.length then some x else none)=some r:=h;cases q:Nat.beq l.length x.length with
  |false=>grind
  |true=>
   simp_all
theorem Qmq{α:Type}{l r:List α}{o:Option (List α)}(h:Qki l o=some r):o=some r:=(Qih h).1
theorem Qgv{α:Type}{l r:List α}{o:Option (List α)}(h:Qki l o=some r):l.length=r.length:=(Qih h).2
section
variable {P:Program} {o:Oper} {env:Env} {H:Qd} {α:Type} {e:α->List A}
end
open Go.MapKept
section
variable {P:Program} {o:Oper} {env:Env} {H:Qd}
variable {T kt et:Nat} {α β:Type} [DecidableEq α] {ek:α->A} {ev:β->A} {x y:Operand} {i:Nat} {l:List (α×β)} {k:α} {z0:β} {z:Value}
end
section
variable {fr ro:Nat->Prop} {σ:Sig} {H:Qd} {w:World}
theorem Sim.shutAny(s:Sim fr ro σ H w){i b:Nat}{n:Blk}(hσ:σ[i]?=some (some b))(k:H[i]?=some n)(l:n.live=true):
  Sim fr (λc=>ro c\/c=b) σ (H.set i .dead) w:=by
 have r:b<w.heap.size/\ ¬ro b/\ ¬fr b:=s.own i b _ hσ k l;have ext:Ext ro σ w (λc=>ro c\/c=b) σ w:=⟨λ_ q=>.inl q,λ_ _=>rfl,λ_ _ q=>q,λ_ _ q=>q⟩;have a:∀(j:Nat) (v:Blk),(H.set i .dead)[j]?=some v->v≠ .dead->j≠i/\H[j]?=some v:=by
  grind
 refine⟨by rw[X0];exact s.len,s.roOk.to (λ_ q=>.inl q) (λ_ _=>rfl) ?_,s.frLt,?_,?_,?_,?_,s.hidTo (· = ·) Yc (XR _) (λj d x c O G M Q=>Q.elim id λq=>((s.hid j d x c O G M).ne i b _ hσ k l q).elim) (λ_ _ _ _ _ _ _ q=>q) λj d y N E F=>.inl ⟨j,y,rfl,N,(a j y E (QeM F)).2,id,λ_ q=>q⟩⟩
 .rintro c (q|rfl)
  .exact s.roLt c q
  omega
 .rintro c (q|rfl)
  .exact s.roFr c q
  grind
 .intro j c v g f h;obtain⟨e,f⟩:=a j v f (Qap h);obtain⟨B,L,J⟩:=s.own j c v g f h;refine⟨B,?_,J⟩;rintro(q|rfl)
  .exact L q
  .exact e (s.inj j i c v _ g hσ f k h l)
 .intro j t c v z g f h P u m;exact s.inj j t c v z g f (a j v h (Qap u)).2 (a t z P (Qap m)).2 u m
 .intro j y v g f;by_cases p:v≠ .dead
  .exact(s.blk j y v g (a j v f p).2).keep ext (λ_ _ _=>rfl) (λ_ _ _ _=>rfl)
  .obtain rfl:v=.dead:=Classical.not_not.1 p;trivial
def QoC(H:Qd):List Nat->Qd
 |[]=>H
 |i::l=>QoC (H.set i .dead) l
theorem Sim.shutL:∀{l:List Nat} {ro:Nat->Prop} {H:Qd} (s:Sim fr ro σ H w),l.Nodup->(∀i∈l,∃x,H[i]?=some x/\x.live=true)->
  ∃ro',Sim fr ro' σ (QoC H l) w/\(∀c,ro c->ro' c)/\ ∀i∈l,∀b,σ[i]?=some (some b)->ro' b
 |[],ro,H,s,_,_=>⟨ro,s,λ_ q=>q,λ_ h=>by cases h⟩
 |i::l,ro,H,s,hn,hl=>by
  rw[List.nodup_cons]at hn;obtain⟨x,hx,hxl⟩:=hl i (by simp);have rest:∀i'∈l,∃x,(H.set i .dead)[i']?=some x/\x.live=true:=by
   grind
  have g:∃q,σ[i]?=some q:=by
   have:i<σ.length:=by rw[s.len];grind
   simp_all
  obtain⟨q,k⟩:=g;cases q with
  |some b=>
   obtain⟨ro',d,f,j⟩:=Sim.shutL (s.shutAny k hx hxl) hn.2 rest;refine⟨ro',d,(by grind),λi' a m e=>?_⟩
   grind
  |none=>
   obtain⟨ro',d,f,j⟩:=Sim.shutL (s.kill i) hn.2 rest;refine⟨ro',d,f,λi' a m e=>?_⟩
   grind
end
end Go.Sw
namespace Go.Sw
structure Fil (α β:Type) where
 number:Int
 r0:List α
 r1:List α
 r2:List α
 reports:List β
 appeal:Bool
 deriving DecidableEq
structure FK (α β:Type) where
 T:Nat
 tF:Nat
 kF:Nat
 tR:Nat
 kR:Nat
 eF:α->List A
 eR:β->List A
section
variable {α β:Type} (K:FK α β)
def QmI(b:Nat)(x:Fil α β):List A:=[.int .i64 x.number,.osl (b+1) 0 x.r0.length K.kF,.osl (b+2) 0 x.r1.length K.kF,.osl (b+3) 0 x.r2.length K.kF,.osl (b+4) 0 x.reports.length K.kR,.bool x.appeal]
def Qko(b:Nat)(x:Fil α β):List Blk:=[.cells K.T (QmI K b x),.row K.tF K.kF (x.r0.map K.eF),.row K.tF K.kF (x.r1.map K.eF),.row K.tF K.kF (x.r2.map K.eF),.row K.tR K.kR (x.reports.map K.eR)]
def fall:Nat->List (Fil α β)->List Blk
 |_,[]=>[]
 |b,x::l=>Qko K b x++fall (b+5) l
def frp(x:Fil α β):List A:=[.int .i64 x.number,.rsl K.kF (x.r0.map K.eF),.rsl K.kF (x.r1.map K.eF),.rsl K.kF (x.r2.map K.eF),.rsl K.kR (x.reports.map K.eR),.bool x.appeal]
def fent:Nat->List (Fil α β)->List (Int×Nat)
 |_,[]=>[]
 |b,x::l=>(x.number,b)::fent (b+5) l
def ptr0(j:Nat):A:=.ptr j 0
def rpE(x:Fil α β):A:=.rp (frp K x)
def fnum(fs:List (Fil α β)):List (Int×Fil α β):=fs.map λx=>(x.number,x)
theorem QgA(b:Nat)(x:Fil α β)(l:List (Fil α β)):fall K b (x::l)=Qko K b x++fall K (b+5) l:=rfl
theorem Qlf(b:Nat)(x:Fil α β):(Qko K b x).length=5:=rfl
end
section
variable {fr ro ro':Nat->Prop} {σ:Sig} {w:World}
theorem Qeu(sub:∀c,ro c->ro' c){i t k:Nat}{es:List (List A)}{v:Value}(j:∀b,σ[i]?=some (some b)->BR ro σ w (.row t k es) (some b)/\ro' b)(h:VR ro σ w (.osl i 0 es.length k) v):VR ro' [] w (.rsl k es) v:=by
 rcases h with⟨z,h⟩|⟨b,p,a,B,m,g,h,e,⟨d,r⟩,E,y⟩
 .have:es=[]:=(by grind);subst this;exact⟨none,0,h,XR _,.inl rfl⟩
 .refine⟨_,a,h,d,?_⟩;by_cases u:es=[]
  .exact .inl u
  .right;have x:0<a:=Vb (by grind) d;obtain rfl:=e x;obtain⟨⟨l,s,f⟩,n⟩:=j b g;refine⟨b,0,by simp,n,?_⟩;have:=YF (pre:=[]) (by simpa using s) f;exact this.keep ⟨sub,λ_ _=>rfl,λ_ _ q=>q,λ_ _ q=>q⟩ rfl
theorem QnF{ro:Nat->Prop}{w:World}{b t:Nat}:∀{cs:List A} {pre l:List Value},w.heap[b]?=some (.cells (pre++l).toArray t (0,0))->LR ro [] w cs l->(∀v∈l,Qx v)->CR ro [] w b cs pre.length
 |[],pre,l,_,_,_=>trivial
 |a::cs,pre,l,hb,hl,hp=>by
  obtain⟨v,l',rfl,h1,h2⟩:=hl;refine⟨⟨v,?_,hp v (by simp),h1⟩,?_⟩
  .unfold World.cell?
   grind
  .have:=QnF (pre:=pre++[v]) (l:=l') (by simpa using hb) h2 (by grind)
   grind
variable {α β:Type} (K:FK α β)
theorem Qoq(sub:∀c,ro c->ro' c){b:Nat}{x:Fil α β}{v:Value}(f:∀(d c:Nat) (y:Blk),(Qko K b x)[d]?=some y->σ[b+d]?=some (some c)->BR ro σ w y (some c)/\ro' c)(h:VR ro σ w (.ptr b 0) v):VR ro' [] w (.rp (frp K x)) v:=by
 obtain⟨c,n,j⟩:=h;obtain⟨⟨l,p,a,g⟩,m⟩:=f 0 c _ rfl n;refine⟨c,0,j,m,?_⟩;refine QnF (pre:=[]) (by simpa using p) ?_ g;unfold QmI at a;obtain⟨v0,H,rfl,u,a⟩:=a;obtain⟨k,N,rfl,M,a⟩:=a;obtain⟨i,E,rfl,F,a⟩:=a;obtain⟨q,J,rfl,L,a⟩:=a;obtain⟨z,G,rfl,O,a⟩:=a;obtain⟨s,B,rfl,r,a⟩:=a;refine⟨v0,_,rfl,u,k,_,rfl,Qeu sub (t:=K.tF) (λc e=>f 1 c _ rfl e) (by grind),i,_,rfl,Qeu sub (t:=K.tF) (λc e=>f 2 c _ rfl e) (by grind),q,_,rfl,Qeu sub (t:=K.tF) (λc e=>f 3 c _ rfl e) (by grind),
  z,_,rfl,Qeu sub (t:=K.tR) (λc e=>f 4 c _ rfl e) (by grind),s,_,rfl,r,a⟩
theorem Qnz(sub:∀c,ro c->ro' c){ek:Int->A}(hek:∀(k:Int) (v:Value),VR ro σ w (ek k) v->VR ro' [] w (ek k) v):∀{b:Nat} {fs:List (Fil α β)} {es:List MapEntry},(∀(d c:Nat) (y:Blk),(fall K b fs)[d]?=some y->σ[b+d]?=some (some c)->BR ro σ w y (some c)/\ro' c)->
  ER ro σ w (Q4 ek ptr0 (fent b fs)) es->ER ro' [] w (Q4 ek (rpE K) (fnum fs)) es
 |b,[],es,_,h=>h
 |b,x::l,es,hb,h=>by
  obtain⟨e,l',rfl,h1,h2,h3⟩:=h;refine⟨e,l',rfl,hek _ _ h1,?_,?_⟩
  .refine Qoq K sub (λd c y hy hc=>hb d c y ?_ hc) h2
   grind[QgA]
  .refine Qnz sub hek (b:=b+5) (fs:=l) (λd c y hy hc=>hb (d+5) c y ?_ (by grind)) h3
   grind[QgA,Qlf]
end
section
variable {fr ro:Nat->Prop} {σ:Sig} {w:World} {α β:Type} (K:FK α β)
end
open Go.Sort Go.Proofs Go.Shelf
end Go.Sw
namespace Go.Sw
structure Pl where
 b:Nat
 i0:Nat
 i1:Nat
 i2:Nat
 i3:Nat
def Pl.ix(p:Pl):List Nat:=[p.b,p.i0,p.i1,p.i2,p.i3]
section
variable {α β:Type} (K:FK α β)
def QjM(p:Pl)(x:Fil α β):List A:=[.int .i64 x.number,.osl p.i0 0 x.r0.length K.kF,.osl p.i1 0 x.r1.length K.kF,.osl p.i2 0 x.r2.length K.kF,.osl p.i3 0 x.reports.length K.kR,.bool x.appeal]
structure QcQ (H:Qd) (x:Fil α β) (p:Pl):Prop where
 c:H[p.b]?=some (.cells K.T (QjM K p x))
 r0:H[p.i0]?=some (.row K.tF K.kF (x.r0.map K.eF))
 r1:H[p.i1]?=some (.row K.tF K.kF (x.r1.map K.eF))
 r2:H[p.i2]?=some (.row K.tF K.kF (x.r2.map K.eF))
 r3:H[p.i3]?=some (.row K.tR K.kR (x.reports.map K.eR))
abbrev QjZ(α β:Type):=List (Fil α β×Pl)
structure QbD (lo:Nat) (H:Qd) (bk:QjZ α β):Prop where
 laid:∀e∈bk,QcQ K H e.1 e.2
 own:∀e∈bk,e.2.ix.Nodup
 ne:bk.Pairwise λe f=>∀i∈e.2.ix,i∉f.2.ix
 lo:∀e∈bk,∀i∈e.2.ix,lo<=i
 num:(bk.map (·.1.number)).Nodup
variable {K} {lo:Nat} {H H':Qd} {bk l r:QjZ α β} {e:Fil α β×Pl} {x':Fil α β} {p':Pl}
theorem QbD.nil:QbD K lo H ([]:QjZ α β):=⟨(λ_ h=>by cases h),(λ_ h=>by cases h),List.Pairwise.nil,(λ_ h=>by cases h),List.nodup_nil⟩
theorem QcQ.lt(h:QcQ K H e.1 e.2):∀i∈e.2.ix,i<H.length:=by
 intro i a;have g:∀{j:Nat} {y:Blk},H[j]?=some y->j<H.length:=(by grind);simp only[Pl.ix,X3,List.not_mem_nil,or_false]at a;rcases a with rfl|rfl|rfl|rfl|rfl
 .exact g h.c
 .exact g h.r0
 .exact g h.r1
 .exact g h.r2
 .exact g h.r3
theorem QcQ.keep(h:QcQ K H e.1 e.2)(k:∀i∈e.2.ix,H'[i]?=H[i]?):QcQ K H' e.1 e.2:=by
 refine⟨?_,?_,?_,?_,?_⟩
 .rw[k _ (by simp[Pl.ix])];exact h.c
 .rw[k _ (by simp[Pl.ix])];exact h.r0
 .rw[k _ (by simp[Pl.ix])];exact h.r1
 .rw[k _ (by simp[Pl.ix])];exact h.r2
 .rw[k _ (by simp[Pl.ix])];exact h.r3
theorem QbD.keep(h:QbD K lo H bk)(k:∀j,lo<=j->j<H.length->H'[j]?=H[j]?):QbD K lo H' bk:=
 ⟨λe he=>(h.laid e he).keep λi hi=>k i (h.lo e he i hi) ((h.laid e he).lt i hi),h.own,h.ne,h.lo,h.num⟩
theorem QbD.upd(h:QbD K lo H (l++e::r))(w:QcQ K H' x' p')(E:x'.number=e.1.number)(x:∀j,lo<=j->j<H.length->j∉e.2.ix->H'[j]?=H[j]?)
  (hi:∀i∈p'.ix,i∈e.2.ix\/H.length<=i)(z:p'.ix.Nodup)(B:lo<=H.length):QbD K lo H' (l++(x',p')::r):=by
 obtain⟨y,t,F⟩:=List.pairwise_append.1 h.ne;obtain⟨G,u⟩:=Xc.1 t;have mem:∀f∈l++(x',p')::r,f=(x',p')\/(f∈l++e::r/\ ∀i∈f.2.ix,i∉e.2.ix):=by
  intro f a
  grind
 refine⟨?_,?_,?_,?_,?_⟩
 .intro f a;rcases mem f a with rfl|⟨m,n⟩
  .exact w
  .exact(h.laid f m).keep λi hi=>x i (h.lo f m i hi) ((h.laid f m).lt i hi) (n i hi)
 .intro f a;rcases mem f a with rfl|⟨m,n⟩
  .exact z
  .exact h.own f m
 .refine List.pairwise_append.2 ⟨y,Xc.2 ⟨?_,u⟩,?_⟩
  .intro f a i d k;rcases hi i d with q|q
   .grind
   .have:=(h.laid f (by simp[a])).lt i k;omega
  .intro f a g s i k p;rcases X3.1 s with rfl|s
   .rcases hi i p with q|q
    .grind
    .have:=(h.laid f (by simp[a])).lt i k;omega
   grind
 .intro f a;rcases mem f a with rfl|⟨m,n⟩
  .intro i d;rcases hi i d with q|q
   .exact h.lo e (by simp) i q
   .omega
  .exact h.lo f m
 .have:=h.num
  grind
theorem QbD.add(h:QbD K lo H bk)(k:QcQ K H' x' p')(t:∀e∈bk,e.1.number≠x'.number)(m:∀j,lo<=j->j<H.length->H'[j]?=H[j]?)
  (hi:∀i∈p'.ix,H.length<=i)(n:p'.ix.Nodup)(s:lo<=H.length):QbD K lo H' (bk++[(x',p')]):=by
 have r:=h.keep m;have mem:∀f∈bk++[(x',p')],f∈bk\/f=(x',p'):=by
  simp
 refine⟨?_,?_,?_,?_,?_⟩
 .intro f d;rcases mem f d with q|rfl
  .exact r.laid f q
  .exact k
 .intro f d;rcases mem f d with q|rfl
  .exact h.own f q
  .exact n
 .refine List.pairwise_append.2 ⟨h.ne,by simp,λf d g p i a l=>?_⟩;obtain rfl:=Vx.1 p;have:=(h.laid f d).lt i a
  grind
 .intro f d i a;rcases mem f d with q|rfl
  .exact h.lo f q i a
  grind
 .rw[Xf];refine List.nodup_append.2 ⟨h.num,by simp,?_⟩
  grind
end
section
variable {fr ro ro':Nat->Prop} {σ:Sig} {w:World} {α β:Type} (K:FK α β)
def Qm5(bk:QjZ α β):List Nat:=bk.flatMap λe=>e.2.ix
theorem QbD.all{lo:Nat}{H:Qd}:∀{f:QjZ α β},QbD K lo H f->(Qm5 f).Nodup/\ ∀i∈Qm5 f,lo<=i/\ ∃y,H[i]?=some y/\y.live=true:=by
 intro f h;refine⟨?_,?_⟩
 .have j:=h.own;have k:=h.ne
  grind[Qm5]
 .intro i d;obtain⟨e,g,d⟩:=List.mem_flatMap.1 d;refine⟨h.lo e g i d,?_⟩;have a:=h.laid e g;simp only[Pl.ix,X3,List.not_mem_nil,or_false]at d;rcases d with rfl|rfl|rfl|rfl|rfl
  .exact⟨_,a.c,rfl⟩
  .exact⟨_,a.r0,rfl⟩
  .exact⟨_,a.r1,rfl⟩
  .exact⟨_,a.r2,rfl⟩
  .exact⟨_,a.r3,rfl⟩
end
section
variable {α β:Type} (K:FK α β) {env:Env} {H:Qd}
end
section
variable {P:Program} {h0 N:Nat} {all:Array Oper} {o:Oper} {l:List Oper} {env:Env} {H:Qd} {Q:QP}
end
section
variable {h0 n:Nat} {env env':Env} {H H':Qd}
end
section
variable {P:Program} {o:Oper} {env:Env} {H:Qd} {α:Type}
end
section
variable {α β:Type}
def newF(k:Int):Fil α β:=⟨k,[],[],[],[],false⟩
variable (K:FK α β) {lo:Nat} {H H':Qd} {bk:QjZ α β}
def Qk3(n:Nat):Pl:=⟨n,n+1,n+2,n+3,n+4⟩
def Qew(n:Nat)(k:Int):Qd:=[.cells K.T (QjM K (Qk3 n) (newF k)),.row K.tF K.kF [],.row K.tF K.kF [],.row K.tF K.kF [],.row K.tR K.kR []]
theorem QcQ.new{k:Int}:QcQ K (H++Qew K H.length k) (newF k) (Qk3 H.length):=by
 have g:∀(j:Nat) (y:Blk),(Qew K H.length k)[j]?=some y->(H++Qew K H.length k)[H.length+j]?=some y:=by
  grind
 exact⟨g 0 _ rfl,g 1 _ rfl,g 2 _ rfl,g 3 _ rfl,g 4 _ rfl⟩
theorem Qj9(n:Nat):(∀i∈(Qk3 n).ix,n<=i)/\(Qk3 n).ix.Nodup:=by
 simp_all[Pl.ix,Qk3]
variable {K}
theorem QbD.new{k:Int}(h:QbD K lo H bk)(a:∀e∈bk,e.1.number≠k)(d:lo<=H.length):QbD K lo (H++Qew K H.length k) (bk++[(newF k,Qk3 H.length)]):=by
 refine h.add (QcQ.new K) a (by grind) (Qj9 _).1 (Qj9 _).2 d
theorem QbD.row{l r:QjZ α β}{e:Fil α β×Pl}{x':Fil α β}{d:Pl}{i:Nat}{y:Blk}(h:QbD K lo H (l++e::r))(k:lo<=H.length)(z:x'.number=e.1.number)(hi:i∈e.2.ix)(w:i≠e.2.b)(g:d.b=e.2.b)
  (L:H'=(H.set i .dead++[y]).set e.2.b (.cells K.T (QjM K d x')))
  (B:d.ix=e.2.ix.map λj=>bif Nat.beq j i then H.length else j)
  (n:H'[d.i0]?=some (.row K.tF K.kF (x'.r0.map K.eF)))(m:H'[d.i1]?=some (.row K.tF K.kF (x'.r1.map K.eF)))(u:H'[d.i2]?=some (.row K.tF K.kF (x'.r2.map K.eF)))(s:H'[d.i3]?=some (.row K.tR K.kR (x'.reports.map K.eR))):
  QbD K lo H' (l++(x',d)::r):=by
 have E:=h.laid e (by simp);have f:=E.lt;have q:e.2.b<H.length:=f _ (by simp[Pl.ix]);refine h.upd ⟨?_,n,m,u,s⟩ z ?_ ?_ ?_ k
 .grind
 .grind[List.getElem?_set_ne,Pl.ix]
 .grind
 .rw[B];have t:=h.own e (by simp);refine List.pairwise_map.2 (List.Pairwise.imp_of_mem ?_ t);intro a b p g x;have F:=f a p;have M:=f b g;cases G:Nat.beq a i with
  |true=>
   cases J:Nat.beq b i with
   |true=>simp_all
   |false=>grind
  |false=>
   grind
end
section
variable {fr ro:Nat->Prop} {σ:Sig} {H:Qd} {w:World}
end
section
variable {P:Program} {o:Oper} {env:Env} {H:Qd}
theorem Le.frow{O s i n k t:Nat}{es:List (List A)}(L:lk env s=.osl i 0 n k)(E:H[i]?=some (.frow t k es))(F:es.length=n):Le O env H (up env s (.rsl k es)) H:=by
 intro R g σ N a w r;refine⟨g,σ,⟨r.sim,?_,r.size,r.defers⟩,λ_ q=>q,rfl⟩;intro e;simp only[lk];by_cases q:e=s
 .subst q;rw[VB];have:=r.env e;rw[L]at this;show VR g σ w (.rsl k es) _;rcases this with⟨h,f⟩|⟨b,p,d,W,m,h,f,B,⟨T,u⟩,V,P⟩
  .have:es=[]:=(by grind);subst this;exact⟨none,0,by rw[f];rfl,XR _,.inl rfl⟩
  .obtain⟨j,l,M,x,Q⟩:=r.sim.blk i _ _ h E;refine⟨_,d,by rw[f,F],by omega,?_⟩;by_cases J:es=[]
   .exact .inl J
   .right;have y:0<d:=(by grind);have G:=B y;refine⟨b,0,by rw[G];simp,j,?_⟩;exact YF (pre:=[]) (by simpa using M) x
 .have:Nat.beq e s=false:=by
   cases z:Nat.beq e s with
   |true=>simp_all
   |false=>rfl
  rw[this];exact r.env e
end
open Go.MapKept
section
variable {P:Program} {kt et:Nat} {α β:Type} [DecidableEq α] {ek:α->A} {ev:β->A} {ro:Nat->Prop} {σ:Sig} {w:World} (K:Qaa P kt ek)
include K
variable {o:Oper} {env:Env} {H:Qd} {T T' i:Nat} {x y:Operand} {l m:List (α×β)} {k:α}
end
end Go.Sw
namespace Go.Sw
section
variable {P:Program} {h0 N:Nat} {all:Array Oper} {o1 o2:Oper} {l:List Oper} {env:Env} {H:Qd} {Q:QP}
end
section
variable {P:Program} {o:Oper} {env:Env} {H:Qd}
end
section
variable {P:Program} {o:Oper} {env:Env} {H:Qd} {α:Type}
def QcG(l:List α)(lo hi i:Int):Option α:=bif decide (0<=lo)&&(decide (0<=i)&&decide (lo+i<hi))then idx l (lo+i)else none
theorem Qkk{l:List α}{lo hi i:Int}{v:α}(h:QcG l lo hi i=some v):0<=lo/\0<=i/\lo+i<hi/\idx l (lo+i)=some v:=by
 unfold QcG at h
 grind
theorem Qay{l:List α}{lo hi i:Int}{v:α}(h:QcG l lo hi i=some v):idx l (lo+i)=some v:=(Qkk h).2.2.2
theorem JI{t a k b:Nat}{x y:Operand}{l:List α}{m:IntKind}{lo hi i:Int}{v:α}(h:QcG l lo hi i=some v)(j:∀w,(underlying t).run P w=.ok (.slice a) w)(g:∀w,(sizeOf a).run P w=.ok k w)
  (d:o.op=.indexAddr t x y:=by exact rfl)(hx:opA env x=.osl b (0+lo.toNat) (hi.toNat-lo.toNat) k:=by exact rfl)(hy:opA env y=.int m i:=by exact rfl):OpV P o env H (.ptr b ((lo+i).toNat*k)):=by
 obtain⟨q,f,p,_⟩:=Qkk h;have n:=QhH (H:=H) d j g hx hy f (by omega);have e:(0+lo.toNat)*k+i.toNat*k=(lo+i).toNat*k:=by
  rw[<- Xy]
  grind
 rwa [e]at n
end
theorem QhL{h0:Nat}{env:Env}{H H':Qd}(e:H=H'):Le h0 env H env H':=e▸Le.refl h0 env H
section
variable {P:Program} {o:Oper} {env:Env} {H:Qd}
end
section
variable {env:Env} {H:Qd}
theorem QgR{h0 i j m o' n k T:Nat}{x:Blk}{cs:List A}(hi:H[i]?=some x)(E:H[j]?=some (.cells T cs))(s:cs[m]?=some (.osl i o' n k))(g:Nat.beq i j=false)(X:Nat.ble h0 H.length=true):
  Le h0 env H env ((H.set i .dead).set j (.cells T (cs.set m (.osl H.length o' n k)))++[x]):=by
 intro Y B σ N a w r;have hiσ:i<σ.length:=by rw[r.sim.len];exact(XJ.1 hi).1
 have hσ:σ[i]?=some σ[i]:=XI hiσ;have ext:Ext B σ w B (σ++[σ[i]]) w:=⟨λ_ q=>q,λ_ _=>rfl,λ_ _ q=>q,λ_ _ h=>Qac h⟩;have Q:=r.sim.moved hi hσ;have e:j<H.length:=(XJ.1 E).1;have u:i≠j:=λq=>by rw[q,VB]at g;cases g
 have d:(H.set i .dead++[x])[j]?=some (.cells T cs):=by
  rw[XK (by simpa using e),XN u];exact E
 have L:(H.set i .dead).set j (.cells T (cs.set m (.osl H.length o' n k)))++[x]=(H.set i .dead++[x]).set j (.cells T (cs.set m (.osl H.length o' n k))):=by
  rw[List.set_append_left _ _ (by simpa using e)]
 rw[L];refine⟨B,σ++[σ[i]],⟨Q.weaken d rfl ?_,λq=>(r.env q).mono ext,r.size,r.defers⟩,λ_ q=>q,QG (by rw[r.sim.len];exact XP X)⟩;have f:σ.length=H.length:=r.sim.len;intro y h;cases y with
 |none=>exact h
 |some b=>
  obtain⟨l,J,V,O⟩:=h;refine⟨l,J,?_,O⟩;clear J O d L E Q
  induction cs generalizing m l with
  |nil=>cases s
  |cons c cs R=>
   obtain⟨v,z,rfl,M,P⟩:=V;cases m with
   |zero=>
    simp at s;subst s;refine⟨v,z,rfl,?_,P⟩;rcases M with h|⟨b,p,F,t,m,G,W⟩
    .exact .inl h
    .refine .inr ⟨b,p,F,t,m,?_,W⟩;rw[XK hiσ,hσ]at G;rw[<- f];simpa using G
   |succ m=>exact⟨v,z,rfl,M,R (by simpa using s) z P⟩
theorem OpU.ins{P:Program}{o:Oper}{H':Qd}{T:Nat}{x y e:Operand}(k:o.op=.insert T x y e)(h:OpU P {o with op:=.mapUpdate T x y e} env H H'):OpU P o env H H':=by
 intro i m σ N a w r;obtain⟨j,d,τ,g,f,l⟩:=h i m σ N a w r;exact⟨j,d,τ,by simpa only[execOp,k]using g,f,l⟩
end
section
variable {P:Program} {o:Oper} {env:Env} {H:Qd} {T kt et:Nat} {α β:Type} [DecidableEq α] {ek:α->A} {ev:β->A} {x y:Operand} {i:Nat} {l:List (α×β)} {k:α} {z:Value} {zA:A}
end
open Go.Sort Go.Proofs Go.Shelf
end Go.Sw
namespace Go.Sw
theorem QhW{P:Program}{T e k:Nat}{w:World}(E1:∀w,(underlying T).run P w=.ok (.slice e) w)(E2:∀w,(sizeOf e).run P w=.ok k w){ad:Option Addr}{n cap:Nat}{z:Int}(d:n<=cap)(a:0<=z)(g:z<=n):
  (Instr.sliceAt T (.slice ad n cap) none (some (.int .i64 z)) (some (.int .i64 z))).run P w=.ok (.slice (if z.toNat=0 then ad else ad.map (·.add (0*k))) (z.toNat-0) (z.toNat-0)) w:=by
 have f:(Instr.sliceBounds true n cap none (some (.int .i64 z)) (some (.int .i64 z))).run P w=.ok (0,z.toNat,z.toNat) w:=by
  simp only[Instr.sliceBounds,Vi,Vj,Result.andThen,Ye a (show z<=(cap:Int)by omega),Ye a (show z<=(z.toNat:Int)by omega)]
 simp only[Instr.sliceAt,Vi,E1,Result.andThen,Instr.slice,f,E2,Vj]
theorem Qno{α:Type}{P:Program}{o:Oper}{env:Env}{H:Qd}{T et k b:Nat}{x hi j:Operand}{l r:List α}{c:Int}(h:slc l 0 c=some r)(E1:∀w,(underlying T).run P w=.ok (.slice et) w)(E2:∀w,(sizeOf et).run P w=.ok k w)
  (f:o.op=.slice T x none (some hi) (some j):=by exact rfl)(hx:opA env x=.osl b 0 l.length k:=by exact rfl)(h1:opA env hi=.int .i64 c:=by exact rfl)(h2:opA env j=.int .i64 c:=by exact rfl):
  OpV P o env H (.osl b (0+Int.toNat 0) (c.toNat-Int.toNat 0) k):=by
 intro J O σ N a w r;obtain⟨M,i,u,_⟩:=QbJ h;have t:=Qk r x;rw[hx]at t;rcases t with⟨s,e⟩|⟨g,p,cap,E,m,s,e,y,⟨B,L⟩,G,F⟩
 .have d:=QhW (P:=P) (w:=w) E1 E2 (ad:=none) (n:=0) (cap:=0) (z:=c) (XR 0) i (by omega);refine⟨_,by simp only[execOp,f,e,Vi,Xk,Xj,Qy r h1,Qy r h2,d,Result.andThen,Vj];rfl,?_⟩;left;have:c.toNat=0:=by omega
  simp[this]
 .have d:=QhW (P:=P) (w:=w) E1 E2 (ad:=some ⟨g,p,none⟩) (n:=l.length) (cap:=cap) (z:=c) B i u;refine⟨_,by simp only[execOp,f,e,Vi,Xk,Xj,Qy r h1,Qy r h2,d,Result.andThen,Vj];rfl,?_⟩;right;refine⟨g,p,c.toNat,E,m,s,by simp[Y3],λq=>?_,⟨by simp,by omega⟩,G,?_⟩
  .rw[y (by omega)];simp
  .refine XT (XA k ?_) F;simp only[Int.toNat_zero];omega
theorem TC.label{P:Program}{h0 N l:Nat}{env:Env}{H:Qd}{Q:QP}(h:Q .normal env H):TC P h0 N (.label l) env H Q:=
 λrd fr ro σ a w r hrd=>wpIn_label ⟨_,env,H,ro,σ,fr,rfl,h,r,Qi.refl _ _ _,rfl,Grow.refl _ _ _⟩
theorem QhT{P:Program}{b:Frame}{a:Act}{k:List Item}{cs:List Frame}{w:World}{c:Code}:step P (lone (b.atR a (.code (.scope c)::k)) cs w)=.next (lone (b.atR a (.code c::.inScope c::k)) cs w):=
 step_lone_go (by simp[stepG,stepG.exec,Frame.atR])
theorem Qf4{P:Program}{b:Frame}{a:Act}{k:List Item}{cs:List Frame}{w:World}{c:Code}:step P (lone (b.atR a (.inScope c::k)) cs w)=.next (lone (b.atR a k) cs w):=
 step_lone_go (by simp[stepG,stepG.exec,Frame.atR])
theorem TC.scope{P:Program}{h0 N:Nat}{c:Code}{env:Env}{H:Qd}{Q:QP}(h:TC P h0 N c env H Q):TC P h0 N (.scope c) env H Q:=by
 intro m l y σ a w r hrd b k cs hro hb f;obtain⟨e,t,p,j,d⟩:=h m l y σ a w r hrd b (.inScope c::k) cs hro hb f;refine⟨e,t,p,j,.of_steps (.one (fenced_calm hb f rfl) QhT) ?_⟩;obtain⟨x,i,H',n,σ',s,q,_⟩:=j;cases e with
 |normal=>exact StepsIn.trans d (.one (fenced_calm hb f rfl) Qf4)
 |exit id=>exact⟨λu g=>d.1 u (by rw[exitTo];exact g;simp),λf g=>d.2 f (by rw[exitTo];exact g;simp)⟩
 |ret=>exact d
 |_=>exact q.elim
theorem Qdm{P:Program}{o:Oper}{env:Env}{H:Qd}{p:Nat}{α:Type}{e:α->List A}{T et k:Nat}{x y:Operand}{i L:IntKind}{n:Int}{zv:α}{l:List α}{z:Value}{a:A}(B:mk n zv=some l)(E:Ya P T et k)(Q:∀w,(zeroValue et).run P w=.ok z w)(f:ZR a z)
  (J:Yp a=true)(u:Yf a=e zv)(M:(Yf a).all Yz=true)(d:Nat.beq (e zv).length k=true)
  (O:o.op=.makeSlice T x y:=by exact rfl)(hx:opA env x=.int i n:=by exact rfl)(hy:opA env y=.int L n:=by exact rfl):
  OpZR P o env H p (.osl p 0 l.length k) (.row et k (l.map e)):=by
 intro V t σ N act w r;obtain⟨g,j,F,m,s,G,R⟩:=Qkd B E Q f J u M d O hx hy r;refine⟨_,_,j,λ_ h=>h.elim,λ σ' hσ ext=>⟨.inr ⟨w.heap.size,0,l.length,et,g.length,hσ,rfl,λ_=>by simp,⟨XR _,by omega⟩,?_,by rw[G,Xu];exact XR _⟩,⟨g,Q6 _ _,?_⟩⟩⟩
 .unfold World.shape?;rw[Q6];simp
 .have:=YY (rest:=[]) s (F.mono (w':=w.alloc (.cells g.toArray et)) (σ':=[]) (ro':=t) ⟨λ_ q=>q,ext.keep,ext.shape,λ_ _ q=>q⟩) m
  rwa [Vc]at this
theorem QcN{P:Program}{o:Oper}{env:Env}{H:Qd}{T f off n:Nat}{x:Operand}{cs:List A}{v:A}{fs:Array Field}{e:Field}(i:QL P T f off n)(j:∀w,(underlying T).run P w=.ok (.struct fs) w)(a:fs[f]?=some e)(d:∀w,(isAgg e.type).run P w=.ok false w)
  (l:o.op=.field T x f:=by exact rfl)(hx:opA env x=.agg cs:=by exact rfl)(hv:cs[off]?=some v:=by exact rfl):OpV P o env H v:=
 OpV.field i (λk m h g w=>by
  have:=(h w).symm.trans (j w);cases this;rw[a]at g;cases g;exact d w) l hx hv
section
variable {P:Program} {o:Oper} {env:Env} {H:Qd} {fr ro:Nat->Prop} {σ:Sig} {w:World}
theorem Qdr(i n c:Nat):Qei i n (c+1)=Qei i n c++[[.osl i (c*n) n 1]]:=by simp[Qei,List.range_succ]
theorem QaQ(i n c:Nat):(Qei i n c).length=c:=by simp[Qei]
theorem Qps{f i t b n:Nat}(j:H[i]?=some (.row t 1 [])):Le f env H env (H.set i (.wins t b n 0)):=by
 intro m g σ N a w r;refine⟨g,σ,⟨r.sim.weaken (x':=.wins t b n 0) j rfl ?_,r.env,r.size,r.defers⟩,λ_ q=>q,rfl⟩;intro y h;cases y with
 |none=>rfl
 |some d=>obtain⟨l,e,k⟩:=h;exact⟨l,e,trivial⟩
theorem srcR{j m t k:Nat}{l:List (List A)}{x:Blk}{v:Value}(s:Sim fr ro σ H w)(F:H[j]?=some x)(hB:∀d,BR ro σ w x (some d)->∃lb:List Value,w.heap[d]?=some (.cells lb.toArray t (0,0))/\RL ro σ w k l lb)(f:l.length=m)(h:VR ro σ w (.osl j 0 m k) v):
  (∃a c,v=.slice a m c)/\(l=[]\/allK k l)/\ ∃vs:List Value,(∀w':World,w'.heap=w.heap->(Builtin.firstCells k m v).run P w'=.ok vs.toArray w')/\LR ro σ w l.flatten vs/\ ∀v∈vs,Qx v:=by
 rcases h with⟨rfl,rfl⟩|⟨b,p,e,L,M,u,rfl,i,⟨G,y⟩,N,J⟩
 .have:l=[]:=VF.1 f;subst this;exact⟨⟨none,0,rfl⟩,.inl rfl,[],λ_ _=>YO,rfl,by simp⟩
 .obtain⟨lb,B,g⟩:=hB b (s.blk j _ _ u F);refine⟨⟨_,e,rfl⟩,.inr g.allK,?_⟩;have z:=YF (pre:=[]) (by simpa using B) g;by_cases E:0<e
  .obtain rfl:=i E;obtain⟨r,O,q⟩:=z.flat;have:=Qa4 (P:=P) (k:=k) (n:=m) (c:=e) r (by rw[q];simp[f]);simpa using this
  .obtain rfl:m=0:=by omega
   have:l=[]:=VF.1 f;subst this;exact⟨[],λ_ _=>YO,rfl,by simp⟩
theorem Qnp{c:Call}{T T' t e' i j n b u m off:Nat}{x y:Operand}(E:Ya P T t 1)(hd:∀w,(underlying T').run P w=.ok (.slice e') w)(ai:n+1<=Yk)(L:off=n*m)(hu:u=m)
  (ho:o.op=.call c:=by exact rfl)(hc:c={callee:=.builtin .append,args:= #[x,y],argTypes:= #[T,T']}:=by exact rfl)(hx:opA env x=.osl i 0 n 1:=by exact rfl)(hH:H[i]?=some (.wins t b m n):=by exact rfl)
  (X:opA env y=.osl j 0 1 1:=by exact rfl)(hHj:H[j]?=some (.rowr t 1 [[.osl b off u 1]]):=by exact rfl):
  OpH P o env H (.osl H.length 0 (n+1) 1) (H.set i .dead++[.wins t b m (n+1)]):=by
 subst L hu;intro fr B σ N a w r;have F:=Qk r x;rw[hx]at F;have h2:=Qk r y;rw[X]at h2;obtain⟨⟨ay,cy,W⟩,-,vs,q3,q4,q5⟩:=srcR (P:=P) (t:=t) (k:=1) (m:=1) (l:=[[A.osl b (n*u) u 1]]) r.sim hHj (λ_ q=>q) rfl h2;rw[W]at q3;have O:allK 1 [[A.osl b (n*u) u 1]]:=⟨rfl,trivial⟩;obtain⟨⟨ax,cap,ex⟩,z,e,o1,o2,o3⟩:=srcR (P:=P) (t:=t) (k:=1) (m:=n) (l:=Qei b u n) r.sim hH (λ_ q=>q) (QaQ _ _ _) F;have z:allK 1 (Qei b u n):=by
  rcases z with q|q
  .rw[q];trivial
  .exact q
 have ae:i<H.length:=(XJ.1 hH).1;have G:vs.length=1:=by rw[q4.length];rfl
 have Y:e.length=n:=by rw[o2.length,Yr z,QaQ];omega
 rw[ex]at o1 F;by_cases s:n+1<=cap
 .rcases F with⟨_,F⟩|⟨d,p,aj,t',mm,h3,F,h4,⟨h5,aa⟩,h6,h7⟩
  .cases F;omega
  cases F;have Q:=r.sim.blk i _ _ h3 hH;obtain⟨lb,g1,g2⟩:=Q;obtain rfl:p=0*1:=h4 (by omega);have h:=QbK (t:=o.type) E hd (ad:=some ⟨d,0*1,none⟩) (n:=n) (m:=1) (cap:=cap) (c:=cy) (ax:=ay) s (q3 w rfl);have J:(n+1)*1<=lb.length:=by
   have:w.shape? d=some (t,lb.length):=by unfold World.shape?;rw[g1];simp
   rw[this]at h6;cases h6;exact XT (XA 1 s) (by simpa using h7)
  have ab:=Yd (P:=P) (vs:=vs) (n*1) 0 g1 (by rw[G];simpa using J) q5;have g:=r.sim.set (x':=.wins t b u (n+1)) (obj:=.cells (splice lb (n*1) vs).toArray t (0,0)) h3 hH rfl
   (λy X=>Jz g1 (Yb (by rw[G];simpa using J)) y X)
   (λex ac=>⟨_,ac,by
    have:=(g2.app (n:=n) (by simp[QaQ]) O q4 q5).mono ex;rw[VE (by simp[QaQ])]at this;rw[Qdr];exact this⟩)
  have sm:=g.1.moved (i:=i) (Xa ae) h3;rw[List.set_set]at sm;refine⟨.slice (some ⟨d,0*1,none⟩) (n+1) cap,_,B,[some d],?_,.inr ⟨d,0*1,cap,t',mm,?_,rfl,h4,⟨s,aa⟩,?_,h7⟩,sm,g.2⟩
  .refine YJ ho hc _ ?_;rw[ex,W,h];simp only[Y3,Nat.zero_mul,Xu,Vi,ab,Result.andThen,Vj];simp
  .rw[<- r.sim.len];simp
  .exact g.2.shape _ _ h6
 .obtain⟨f,nc,R,ah,h⟩:=QeZ (t:=o.type) E hd rfl (by omega) (by omega) q3 o1
  let w0:World:={w with drawn:=w.drawn+1}
  have M:Sim fr B σ (H.set i .dead) w0:=(r.sim.kill i).heap rfl;have e0:Qi fr B w B w0:=Qi.heap rfl rfl rfl rfl (Nat.le_succ _);have V:LR B σ w0 (Qei b u (n+1)).flatten (e++vs):=by
   rw[Qdr,Xr];exact(o2.append q4).mono (Ext.heap (w:=w) (w':=w0) rfl)
  have af:∀v∈e++vs,Qx v:=λv hv=>by rcases Vz.1 hv with q|q;exact o3 v q;exact q5 v q
  have s1:=M.alloc (x:=.wins t b u (n+1)) (obj:=.cells ((e++vs)++f).toArray t) ⟨(e++vs)++f,Q6 _ _,(YY (by rw[Qdr];exact QbX z O) V af).mono ((Qi.alloc (fr:=fr) _ M.roLt M.frLt).ext σ _)⟩;have ag:Qi fr B w0 B (w0.alloc (.cells ((e++vs)++f).toArray t)):=Qi.alloc _ M.roLt M.frLt;refine⟨_,_,B,[some w.heap.size],YJ ho hc a.eval (by rw[ex,W];exact h),.inr ⟨w.heap.size,0,nc,t,(e++vs++f).length,?_,rfl,λ_=>by simp,R,?_,?_⟩,s1,e0.trans ag⟩
  .rw[<- r.sim.len];simp
  .have:=Q6 w0 (.cells ((e++vs)++f).toArray t);unfold World.shape?;rw[show w.heap.size=w0.heap.size from rfl,this];simp
  .simp only[XZ,ah,Y,G,Xu];omega
theorem QnH{ro':Nat->Prop}{i n j t:Nat}{es:List (List A)}{v:Value}(s:Sim fr ro σ H w)(hσ:∀c,σ[i]?=some (some c)->ro' c)(u:∀c,ro c->ro' c)(z:H[i]?=some (.row t 1 es))(E:j*n+n<=es.length)
  (h:VR ro σ w (.osl i (j*n) n 1) v):VR ro' [] w (.rsl 1 ((es.drop (j*n)).take n)) v:=by
 have a:((es.drop (j*n)).take n).length=n:=by simp;omega
 rcases h with⟨rfl,rfl⟩|⟨c,p,e,F,m,f,rfl,g,⟨r,_⟩,G,B⟩
 .exact⟨none,0,by rw[a],by rw[a];exact XR _,.inl (VF.1 a)⟩
 .refine⟨_,e,by rw[a],by rw[a];exact r,?_⟩;by_cases y:n=0
  .exact .inl (VF.1 (a.trans y))
  .obtain rfl:=g (by omega);obtain⟨l,x,k⟩:=s.blk i _ _ f z;have q:=(YF (pre:=[]) (by simpa using x) k).keep (ro':=ro') (σ':=[]) (w':=w) ⟨u,λ_ _=>rfl,λ_ _ q=>q,λ_ _ q=>q⟩ rfl;refine .inr ⟨c,_,rfl,hσ c f,?_⟩;have d:=(q.drop (j*n)).take n;simpa using d
def QlY{α:Type}(l:List α)(n c:Nat):List (List α):=(List.range c).map λj=>(l.drop (j*n)).take n
theorem QkI{ro':Nat->Prop}{i n t d:Nat}{es:List (List A)}(s:Sim fr ro σ H w)(hσ:∀c,σ[i]?=some (some c)->ro' c)(hs:∀c,ro c->ro' c)(hH:H[i]?=some (.row t 1 es)):
  ∀(l:List Nat) (off:Nat),(∀j∈l,j*n+n<=es.length)->RR ro σ w d 1 (l.map λj=>[.osl i (j*n) n 1]) off->RR ro' [] w d 1 (l.map λj=>[.rsl 1 ((es.drop (j*n)).take n)]) off
 |[],_,_,_=>trivial
 |j::l,off,hl,h=>by
  obtain⟨_,⟨⟨v,h2,h3,h4⟩,_⟩,h6⟩:=h;exact⟨rfl,⟨⟨v,h2,h3,QnH s hσ hs hH (hl j (by simp)) h4⟩,trivial⟩,QkI s hσ hs hH l (off+1) (λj hj=>hl j (by simp[hj])) h6⟩
theorem Qov{G s i b t t1 n c:Nat}{α:Type}{e:α->List A}{l:List α}(W:c*n<=l.length)(hi:Nat.ble G i=true)(hb:Nat.ble G b=true)(X:lk env s=.osl i 0 c 1)(B:H[i]?=some (.wins t b n c))(f:H[b]?=some (.row t1 1 (l.map e))):
  Le G env H (up env s (.rsl 1 ((QlY l n c).map (Qu 1 e)))) ((H.set b .dead).set i .dead):=by
 intro fr R σ N a w r;have x:b≠i:=by rintro rfl;rw[B]at f;cases f
 obtain⟨g,Y,y,J⟩:=r.sim.shutL (l:=[b,i]) (by simp[x]) (by
  intro j k;simp at k;rcases k with rfl|rfl
  .exact⟨_,f,rfl⟩
  .exact⟨_,B,rfl⟩)
 refine⟨g,σ,⟨Y,?_,r.size,r.defers⟩,y,rfl⟩;have ext:Ext R σ w g σ w:=⟨y,λ_ _=>rfl,λ_ _ q=>q,λ_ _ q=>q⟩;intro u;simp only[lk];by_cases q:u=s
 .subst q;rw[VB];have h:=r.env u;rw[X]at h;have O:(QlY l n c).map (Qu 1 e)=(List.range c).map λj=>[A.rsl 1 ((((l.map e).drop (j*n)).take n))]:=by
   simp[QlY,Qu,List.map_drop,List.map_take]
  rw[O];rcases h with⟨z,h⟩|⟨d,p,E,t',m,L,h,V,⟨Q,M⟩,h4,h5⟩
  .subst z;exact⟨none,0,h,XR _,.inl rfl⟩
  .refine⟨_,E,by simpa using h,by simpa using Q,?_⟩;by_cases P:c=0
   .left;subst P;rfl
   .right;obtain rfl:=V (by omega);obtain⟨lv,q1,T⟩:=r.sim.blk i _ _ L B;refine⟨d,0,by simp,J i (by simp) d L,?_⟩;refine QkI r.sim (J b (by simp)) y f (List.range c) 0 ?_ (YF (pre:=[]) (by simpa using q1) T);intro j k;have F:j<c:=by simpa using k
    rw[XY];refine XT ?_ W;have:=XA n (show j+1<=c from F)
    rwa [Xy,Nat.one_mul]at this
 .have:Nat.beq u s=false:=by
   rw[VI];intro q';exact q (XO q')
  rw[this];exact(r.env u).mono ext
theorem Qgo{T e k:Nat}(E1:∀w,(underlying T).run P w=.ok (.slice e) w)(E2:∀w,(sizeOf e).run P w=.ok k w){ad:Option Addr}{n cap:Nat}{y z:Int}(a:n<=cap)(f:0<=y)(g:y<=z)(h:z<=n):
  (Instr.sliceAt T (.slice ad n cap) (some (.int .i64 y)) (some (.int .i64 z)) (some (.int .i64 z))).run P w=.ok (.slice (if z.toNat=y.toNat then ad else ad.map (·.add (y.toNat*k))) (z.toNat-y.toNat) (z.toNat-y.toNat)) w:=by
 have d:(Instr.sliceBounds true n cap (some (.int .i64 y)) (some (.int .i64 z)) (some (.int .i64 z))).run P w=.ok (y.toNat,z.toNat,z.toNat) w:=by
  simp only[Instr.sliceBounds,Vi,Vj,Result.andThen,Ye (show 0<=z by omega) (show z<=(cap:Int)by omega),Ye (show 0<=z by omega) (show z<=(z.toNat:Int)by omega),Ye f (show y<=(z.toNat:Int)by omega)]
 simp only[Instr.sliceAt,Vi,E1,Result.andThen,Instr.slice,d,E2,Vj]
theorem QlK{α:Type}{T et k b:Nat}{x lo hi s:Operand}{l r:List α}{c d:Int}(h:slc l c d=some r)(E1:∀w,(underlying T).run P w=.ok (.slice et) w)(E2:∀w,(sizeOf et).run P w=.ok k w)
  (E:o.op=.slice T x (some lo) (some hi) (some s):=by exact rfl)(hx:opA env x=.osl b 0 l.length k:=by exact rfl)(h0:opA env lo=.int .i64 c:=by exact rfl)(h1:opA env hi=.int .i64 d:=by exact rfl)(h2:opA env s=.int .i64 d:=by exact rfl):
  OpV P o env H (.osl b (0+Int.toNat c) (Int.toNat d-Int.toNat c) k):=by
 intro V R σ N a w r;obtain⟨B,j,M,_⟩:=QbJ h;have J:=Qk r x;rw[hx]at J;rcases J with⟨i,f⟩|⟨g,p,cap,t,m,i,f,O,⟨L,Q⟩,G,u⟩
 .have e:=Qgo (P:=P) (w:=w) E1 E2 (ad:=none) (n:=0) (cap:=0) (y:=c) (z:=d) (XR 0) B j (by omega);refine⟨_,by simp only[execOp,E,f,Vi,Xk,Xj,Qy r h0,Qy r h1,Qy r h2,e,Result.andThen,Vj];rfl,?_⟩;left;have:d.toNat-c.toNat=0:=by omega
  simp[this]
 .have e:=Qgo (P:=P) (w:=w) E1 E2 (ad:=some ⟨g,p,none⟩) (n:=l.length) (cap:=cap) (y:=c) (z:=d) L B j M;refine⟨_,by simp only[execOp,E,f,Vi,Xk,Xj,Qy r h0,Qy r h1,Qy r h2,e,Result.andThen,Vj];rfl,?_⟩;right;by_cases F:d.toNat=c.toNat
  .refine⟨g,p,d.toNat-c.toNat,t,m,i,by simp[F],λq=>by omega,⟨XR _,by omega⟩,G,?_⟩;refine XT (XA k ?_) u;omega
  .refine⟨g,p+c.toNat*k,d.toNat-c.toNat,t,m,i,by simp[F,Y3],λq=>?_,⟨XR _,by omega⟩,G,?_⟩
   .rw[O (by omega)];simp
   .refine XT (XA k ?_) u;omega
end
def fnm(P:Program)(i:Nat):String:=match P.funcs[i]? with|some f=>f.name|none=>""
theorem QjL{P:Program}{f:FuncId}{B:Func}(d:(fnm P f=="runtime.NumGoroutine")=false)(h:P.funcs[f]?=some {B with name:=fnm P f}):Go.Proofs.Bears P f B:=⟨_,d,h⟩
def slK(P:Program)(t:Nat):Nat:=match P.underlying t with|some (.slice e)=>e|_=>0
def zA1:A->Value
 |.int k n=>.int k n
 |.bool b=>.bool b
 |.str _=>.string ⟨#[]⟩
 |.rsl _ _=>.slice none 0 0
 |.nils=>.slice none 0 0
 |.nilp=>.pointer none
 |.nilm=>.map none
 |.nilif=>.nilIface
 |_=>.nilFunc
def zA:A->Value
 |.agg r=>.agg (r.map zA1).toArray
 |a=>zA1 a
def kL(P:Program)(F:List (Nat×List (Nat×Nat)))(T:TyX)(Z:TyZ)(w:World):=
 (F.map λe=>(underlying e.1).run P w,F.map λe=>(P.fieldsOf e.1).toList.map λf=>(f.offset,(sizeOf f.type).run P w),
  T.ty.agg.map λe=>((isAgg e.1).run P w,(sizeOf e.1).run P w),T.ty.zer.map λe=>(zeroValue e.1).run P w,
  T.al.map λe=>(zeroValue e.1).run P w,T.sl.map λt=>(underlying t).run P w,Z.sl.map λe=>((underlying e.1).run P w,(sizeOf e.2.1).run P w))
def kR(P:Program)(F:List (Nat×List (Nat×Nat)))(T:TyX)(Z:TyZ)(w:World):=
 (F.map λe=>Result.ok (TypeDesc.struct (P.fieldsOf e.1)) w,F.map λe=>e.2.map λx=>(x.1,Result.ok x.2 w),
  T.ty.agg.map λe=>(Result.ok e.2.1 w,Result.ok e.2.2 w),T.ty.zer.map λe=>Result.ok (zA (.agg e.2.1)) w,
  T.al.map λe=>Result.ok (zA e.2) w,T.sl.map λt=>Result.ok (TypeDesc.slice (slK P t)) w,Z.sl.map λe=>(Result.ok (TypeDesc.slice e.2.1) w,Result.ok e.2.2 w))
def kT(F:List (Nat×List (Nat×Nat)))(T:TyX):Bool:=
 chkF F T.ty.fld&&T.ty.zer.all (λe=>zrB (.agg e.2.1) (zA (.agg e.2.1))&&F.contains (e.1,e.2.2))&&T.al.all λe=>zrB e.2 (zA e.2)&&Yp e.2&&(Yf e.2).all Yz
theorem QbQ{α β:Type}{L:List α}{f g:World->α->β}(h:∀w,L.map (f w)=L.map (g w)){e:α}(he:e∈L)(w:World):f w e=g w e:=List.map_inj_left.1 (h w) e he
theorem PL.ofK{P:Program}:∀{fs:List Field} {pl:List (Nat×Nat)},(∀w:World,fs.map (λf=>(f.offset,(sizeOf f.type).run P w))=pl.map λx=>(x.1,Result.ok x.2 w))->PL P fs pl
 |[],[],_=>.nil
 |[],_::_,h=>by cases h default
 |_::_,[],h=>by cases h default
 |f::fs,(a,n)::pl,h=>by
  have h1:=λw=>List.cons.inj (h w);have e:=λw=>Prod.mk.inj (h1 w).1;obtain rfl:f.offset=a:=(e default).1;exact .cons (λw=>(e w).2) (PL.ofK λw=>(h1 w).2)
section
variable {P:Program} {F:List (Nat×List (Nat×Nat))} {T:TyX} {Z:TyZ}
theorem QnT(h:kL P F T Z=kR P F T Z):∀e∈F,QfR P e.1 e.2:=λe he=>
 ⟨_,λw=>by simpa using QbQ (f:=λw e=>(underlying e.1).run P w) (λw=>(Prod.mk.inj (congrFun h w)).1) he w,PL.ofK λw=>QbQ (f:=λw e=>(P.fieldsOf e.1).toList.map λf=>(f.offset,(sizeOf f.type).run P w)) (λw=>(Prod.mk.inj (Prod.mk.inj (congrFun h w)).2).1) he w⟩
theorem QaU.ofK(h:kL P F T Z=kR P F T Z)(k:kT F T=true):QaU P T:=by
 have d:=QnT h;simp only[kT,XU,Xs]at k;refine⟨⟨Qpg d k.1.1,λe a=>?_,λe a=>?_⟩,λe a=>?_,λe a=>?_⟩
 .have:=QbQ (f:=λw e=>((isAgg e.1).run P w,(sizeOf e.1).run P w)) (λw=>(Prod.mk.inj (Prod.mk.inj (Prod.mk.inj (congrFun h w)).2).2).1) a;exact⟨λw=>(Prod.mk.inj (this w)).1,λw=>(Prod.mk.inj (this w)).2⟩
 .have:=QbQ (f:=λw e=>(zeroValue e.1).run P w) (λw=>(Prod.mk.inj (Prod.mk.inj (Prod.mk.inj (Prod.mk.inj (congrFun h w)).2).2).2).1) a;have q:=k.1.2 e a;exact⟨⟨_,this,zrC q.1⟩,d _ (List.contains_iff_mem.1 q.2)⟩
 .have:=QbQ (f:=λw e=>(zeroValue e.1).run P w) (λw=>(Prod.mk.inj (Prod.mk.inj (Prod.mk.inj (Prod.mk.inj (Prod.mk.inj (congrFun h w)).2).2).2).2).1) a;have q:=k.2 e a;exact⟨⟨_,this,zrC q.1.1⟩,q.1.2,Xs.2 q.2⟩
 .exact⟨_,QbQ (f:=λw t=>(underlying t).run P w) (λw=>(Prod.mk.inj (Prod.mk.inj (Prod.mk.inj (Prod.mk.inj (Prod.mk.inj (Prod.mk.inj (congrFun h w)).2).2).2).2).2).1) a⟩
theorem Qcv.ofK(h:kL P F T Z=kR P F T Z)(k:∀f∈Z.fn,∀(a:Array Value) (w:World),(callFunc f a).run P w=.ok (.enter f a) w):Qcv P Z:=⟨λe he=>by
 have:=QbQ (f:=λw e=>((underlying e.1).run P w,(sizeOf e.2.1).run P w)) (λw=>(Prod.mk.inj (Prod.mk.inj (Prod.mk.inj (Prod.mk.inj (Prod.mk.inj (Prod.mk.inj (congrFun h w)).2).2).2).2).2).2) he;exact⟨λw=>(Prod.mk.inj (this w)).1,λw=>(Prod.mk.inj (this w)).2⟩,k⟩
theorem Qpl{L:List Nat}(h:(λ(a:Array Value) (w:World)=>L.map λf=>(callFunc f a).run P w)=λa w=>L.map λf=>.ok (.enter f a) w):∀f∈L,∀(a:Array Value) (w:World),(callFunc f a).run P w=.ok (.enter f a) w:=
 λf hf a=>QbQ (f:=λw f=>(callFunc f a).run P w) (λw=>congrFun (congrFun h a) w) hf
end
section
variable {P:Program}
theorem QjY.c{f:Field}{fs:List Field}{h off e:Nat}{a d:List Value->Prop}(i:∀h,QhN P f.type (h+1) 1 false a)(g:QjY P fs (h+1) (off+1) e d)(j:Nat.beq f.offset off=true:=by exact rfl)(hn:f.name≠"_":=by decide):
  QjY P (f::fs) (h+1) off (1+e) (λl=>∃l1 l2,l=l1++l2/\a l1/\d l2):=QjY.cons j hn (i h) (λ_=>rfl) g
theorem RF.c1{n:Nat}{T:Type}{e:T->List A}{wf:T->Prop}{f:Field}{fs:List Field}{off L:Nat}{T2:Type}{d:T2->List A}{a:T2->Prop}(h:RB P n f.type T e wf)(r:RF P n fs (off+1) L T2 d a)(g:f.offset=off:=by exact rfl)(hk:P.cellsOf f.type=1:=by kernel_rfl):
  RF P n (f::fs) off L (T×T2) (λp=>e p.1++d p.2) (λp=>wf p.1/\a p.2):=RF.cons g hk h r
end
@[reducible] def Kp{β:Type}(P:Program)(F:Option β)(f:FuncId)(args:List A)(H:Qd)(w:β->A)(H1:β->Qd):Prop:=∀r,F=some r->C P f args H (RQ w H1 r)
theorem Kp.b{β:Type}{P:Program}{F:Option β}{f:FuncId}{fn:Func}{c:Code}{N:Nat}{args:List A}{H:Qd}{w:β->A}{H1:β->Qd}(hf:P.funcs[f]?=some fn)(hb:fn.body=some c)(hN:fn.ntmps=N)(hA:Nat.ble args.length N=true)
  (h:∀r,F=some r->TC P H.length N c (Qd8 0 args) H (Qbu P H.length fn (RQ w H1 r))):Kp P F f args H w H1:=λr e=>QN hf hb hN hA (h r e)
abbrev Ea:=@Ev.bind
abbrev Ec:=@FzH.keep
abbrev Ed:=@FzL.cons
abbrev Ee:=@FzA.refl
abbrev Ef:=@DS.done
abbrev Eg:=@Ev.and
abbrev Eh:=@EvI.done
abbrev Ei:=@FzL.refl
abbrev Ej:=@OpH.lit
abbrev Ek:=@RF.cons
abbrev El:=@RF.c1
abbrev Em:=@Le.trans
abbrev En:=@ZR.int
abbrev Eo:=@FzA.o
abbrev Ep:=@Le.phantom
abbrev Er:=@Ev.or
abbrev Et:=@Ev.eq
abbrev Eu:=@EvI.cont
abbrev Ew:=@OpU.store
abbrev Ex:=@OpV.load
abbrev Ey:=@Ev.const
theorem Zf.{u,v}{α:Sort u}{β:Sort v}{f:α->β}:∀x,f x=f x:=λ_=>rfl
abbrev Ze.{u,v}{α:Sort u}{β:Type v}:α->List β:=λ_=>[]
end Go.Sw
