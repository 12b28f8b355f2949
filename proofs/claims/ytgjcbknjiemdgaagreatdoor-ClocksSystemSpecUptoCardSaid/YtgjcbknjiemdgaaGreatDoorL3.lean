/- The rules by which the code is walked, with what they rest on (part 3). -/
import Derived.Test.YtgjcbknjiemdgaaGreatDoorL2
import Derived.Shelf.Spec.SlicesInsertGrow
set_option linter.unusedVariables false
set_option linter.unusedSectionVars false
set_option linter.unusedSimpArgs false
namespace Go.Sw
theorem Le.env{e:Nat}{env env':Env}{H:Qe}(h:∀s,lk env' s=.any\/lk env' s=lk env s):Le e env H env' H:=by
 intro f d σ N a w r;refine⟨d,σ,⟨r.sim,λs=>?_,r.size,r.defers⟩,λ_ q=>q,rfl⟩;rcases h s with h|h
 .rw[h];trivial
 .rw[h];exact r.env s
def Qo1(env:Env):Env->Prop
 |[]=>True
 |(s,a)::r=>lk env s=a/\Qo1 env r
theorem Qo1.ok{env:Env}:∀{env':Env},Qo1 env env'->∀s,lk env' s=.any\/lk env' s=lk env s
 |[],_,s=>.inl rfl
 |(d,a)::e,⟨h1,h2⟩,s=>by
  by_cases q:s=d
  .simp_all[lk]
  .have:Nat.beq s d=false:=by
    simp_all[VJ]
   simp only[lk,this,Vm];exact Qo1.ok h2 s
def ixO(d:Nat)(op:Op)(t:Nat)(pos:String)(af:Array Edge):Oper:={dst:=some d,op:=op,type:=t,pos:=pos,after:=af,guard:=none}
inductive Kf where
 |seq (c:Code)
 |blo (id:Nat)
 |unr (c:Code)
inductive Cf where
 |code (c:Code)
 |ops (all:Array Oper) (l:List Oper)
 |out (x:AEx)
def kq(P:Program)(h0 N:Nat):List Kf->QR->QR
 |[],Q=>Q
 |.seq c::k,Q=>Seq P h0 N c (kq P h0 N k Q)
 |.blo id::k,Q=>Blo id (kq P h0 N k Q)
 |.unr c::k,Q=>Qj7 P h0 N c (kq P h0 N k Q)
@[reducible] def Hd(P:Program)(h0 N:Nat):Cf->List Kf->Env->Qe->QR->Prop
 |.code c,k,env,H,Q=>TC P h0 N c env H (kq P h0 N k Q)
 |.ops all l,k,env,H,Q=>WO P h0 N all l env H (kq P h0 N k Q)
 |.out x,k,env,H,Q=>kq P h0 N k Q x env H
def QgB(T:TyX)(h0 N:Nat):Cf->List Kf->Env->Qe->Option (Cf×List Kf×Env×Qe)
 |.code (.seq a b),k,env,H=>some (.code a,.seq b::k,env,H)
 |.code (.block id c),k,env,H=>some (.code c,.blo id::k,env,H)
 |.code (.loop c),k,env,H=>some (.code c,.unr c::k,env,H)
 |.code .skip,k,env,H=>some (.out .normal,k,env,H)
 |.code .ret,k,env,H=>some (.out .ret,k,env,H)
 |.code (.exit id),k,env,H=>some (.out (.exit id),k,env,H)
 |.code (.region id ⟨l⟩ false),k,env,H=>some (.ops ⟨l⟩ l,k,env,H)
 |.code (.cond x a b),k,env,H=>match opB env x with
  |.mk (.bool true)=>some (.code a,k,env,H)
  |.mk (.bool false)=>some (.code b,k,env,H)
  |_=>none
 |.ops all [],k,env,H=>some (.out .normal,k,env,H)
 |.ops all (o::l),k,env,H=>match stX T h0 N all o env H with
  |some (env',H')=>some (.ops all l,k,env',H')
  |none=>none
 |.out .normal,.seq c::k,env,H=>some (.code c,k,env,H)
 |.out (.exit i),.seq _::k,env,H=>some (.out (.exit i),k,env,H)
 |.out .ret,.seq _::k,env,H=>some (.out .ret,k,env,H)
 |.out .normal,.blo _::k,env,H=>some (.out .normal,k,env,H)
 |.out (.exit i),.blo id::k,env,H=>match Nat.beq i id with
  |true=>some (.out .normal,k,env,H)
  |false=>some (.out (.exit i),k,env,H)
 |.out .ret,.blo _::k,env,H=>some (.out .ret,k,env,H)
 |.out .normal,.unr c::k,env,H=>some (.code c,.unr c::k,env,H)
 |.out (.exit i),.unr _::k,env,H=>some (.out (.exit i),k,env,H)
 |.out .ret,.unr _::k,env,H=>some (.out .ret,k,env,H)
 |_,_,_,_=>none
def Qih(T:TyX)(h0 N:Nat):Nat->Cf->List Kf->Env->Qe->Option (Cf×List Kf×Env×Qe)
 |0,c,k,env,H=>some (c,k,env,H)
 |n+1,c,k,env,H=>match QgB T h0 N c k env H with
  |some (c',k',env',H')=>Qih T h0 N n c' k' env' H'
  |none=>none
section
variable {P:Program} {T:TyX} {h0 N:Nat} {Q:QR}
theorem Qmn(e:QaY P T){c d:Cf}{k a:List Kf}{env env':Env}{H H':Qe}(h:QgB T h0 N c k env H=some (d,a,env',H'))(g:Hd P h0 N d a env' H' Q):Hd P h0 N c k env H Q:=by
 unfold QgB at h;split at h
 .cases h;exact TC.seq g
 .cases h;exact TC.block g
 .cases h;exact QlT g
 .cases h;exact TC.skip g
 .cases h;exact TC.ret g
 .cases h;exact TC.exit g
 .cases h;exact TC.region g
 .split at h
  .rename_i q;cases h;exact QnE (QV q) rfl g
  .rename_i q;cases h;exact QnF (QV q) rfl g
  .cases h
 .cases h;exact WO.nil g
 .grind[Qjs]
 .cases h;exact seqN g
 .cases h;exact seqX g
 .cases h;exact seqR g
 .cases h;exact bloN g
 .split at h
  .rename_i q;cases h;have:=XP q;subst this;exact bloE g
  .rename_i q;cases h;exact bloX q g
 .cases h;exact bloR g
 .cases h;exact unrN g
 .cases h;exact unrX g
 .cases h;exact unrR g
 .cases h
theorem Qc5(hT:QaY P T):∀(n:Nat) {c c':Cf} {k k':List Kf} {env env':Env} {H H':Qe},Qih T h0 N n c k env H=some (c',k',env',H')->Hd P h0 N c' k' env' H' Q->Hd P h0 N c k env H Q
 |0,c,c',k,k',env,env',H,H',h,g=>by cases h;exact g
 |n+1,c,c',k,k',env,env',H,H',h,g=>by
  unfold Qih at h;split at h
  .rename_i e;exact Qmn hT e (Qc5 hT n h g)
  .cases h
theorem Qkl{env:Env}{s:Nat}{a:A}(h:lk env s=a):∀t,lk (up env s a) t=lk env t:=by
 intro t;simp only[up,lk];cases q:Nat.beq t s with
 |true=>simp_all
 |false=>rfl
theorem Is{α:Type}{all:Array Oper}{l:List Oper}{env:Env}{H:Qe}{b:Bool}{x y:Option α}{r:α}(s:Nat)(h:(bif b then x else y)=some r)(d:lkB env s=.mk (.bool b))
  (t:b=true->x=some r->WO P h0 N all l (up env s (.bool true)) H Q)(e:b=false->y=some r->WO P h0 N all l (up env s (.bool false)) H Q):WO P h0 N all l env H Q:=by
 have a:=QjH d;cases b with
 |true=>exact QG (Le.env λt=>.inr (Qkl a t)) (t rfl h)
 |false=>exact QG (Le.env λt=>.inr (Qkl a t)) (e rfl h)
theorem Ct3E{S B1:Type}{A B C:Code}{env:Env}{H:Qe}{k:List Kf}{b:Ctl S B1}(Eb:S->Env)(Hb:S->Qe)(h:TC P h0 N A env H (kq P h0 N [.seq B] (Qhc h0 b Eb Hb (kq P h0 N (.seq C::k) Q))))(g:∀s env H,b=.cont s->Le h0 env H (Eb s) (Hb s)->kq P h0 N (.seq C::k) Q .normal env H):TC P h0 N (.seq A (.seq B C)) env H (kq P h0 N k Q):=
 QnD Eb Hb h g
end
def dstN(o:Oper)(i:Nat):Nat:=match o.dst with|some d=>d|none=>1000000+i
def Qbe:Nat->Nat->List Oper->List Nat
 |0,_,_=>[]
 |_+1,_,[]=>[]
 |m+1,i,o::l=>dstN o i::Qbe m (i+1) l
def Yq(af:List Nat):Nat->List Nat->List A->Env->Env
 |j,d::ds,x::xs,e=>(d,bif QdP af j then x else .any)::Yq af (j+1) ds xs e
 |j,d::ds,[],e=>(d,.any)::Yq af (j+1) ds [] e
 |_,[],_,e=>e
theorem Qgo{l:List Nat}{t:Nat}:QdP l t=l.contains t:=by
 induction l with
 |nil=>rfl
 |cons a r d=>
  grind[QdP,Nat.eq_of_beq_eq_true,Nat.beq_refl]
theorem QkU{af:List Nat}{env0:Env}{s:Nat}:∀(a:List Nat) (xs f:List A) (b:Nat),
  (∃(j:Nat) (x:A),af.contains (b+j)=true/\a[j]?=some s/\(xs++f)[j]?=some x/\lk (Yq af b a xs env0) s=x)\/lk (Yq af b a xs env0) s=.any\/(a.contains s=false/\lk (Yq af b a xs env0) s=lk env0 s):=by
 intro a
 induction a with
 |nil=>intro xs f b;right;right;exact⟨rfl,by rfl⟩
 |cons d a n=>
  intro xs f b;have next:∀(e:List A),(∃(j:Nat) (x:A),af.contains (b+1+j)=true/\a[j]?=some s/\(e++f)[j]?=some x/\lk (Yq af (b+1) a e env0) s=x)->∀m,(∃(j:Nat) (x:A),af.contains (b+j)=true/\(d::a)[j]?=some s/\(m::e++f)[j]?=some x/\lk (Yq af (b+1) a e env0) s=x):=by
   rintro e ⟨j,x,i,g,l,p⟩ m;exact⟨j+1,x,by grind,by grind,by grind,p⟩
  cases xs with
  |nil=>
   cases q:Nat.beq s d with
   |true=>simp_all[Yq,lk]
   |false=>
    have k:s≠d:=λz=>by simp_all
    simp only[Yq,lk,q,Vm];rcases n [] [] (b+1)with⟨j,x,i,g,l,p⟩|h|⟨i,g⟩
    .simp at l
    .grind
    grind
  |cons x xs=>
   cases q:Nat.beq s d with
   |true=>
    have:=XP q;subst this;simp only[Yq,lk,q,Vl];cases c:QdP af b with
    |true=>left;exact⟨0,x,by rw[<- Qgo];exact c,rfl,rfl,rfl⟩
    |false=>simp
   |false=>
    have k:s≠d:=λz=>by simp_all
    simp only[Yq,lk,q,Vm];rcases n xs f (b+1)with h|h|⟨i,g⟩
    .exact .inl (next xs h x)
    .grind
    grind
section
variable {P:Program} {T:TyX} {h0 N m:Nat} {l:List Oper} {ds:List Nat} {env:Env} {H:Qe} {Q:QR} {K:List Oper->Env->Qe->Prop}
def DS(P:Program)(N m:Nat)(l:List Oper)(ds:List Nat)(env:Env)(H:Qe)(K:List Oper->Env->Qe->Prop)(r:List Oper)(xs:List A):Prop:=
 r=l.drop xs.length->∃ys,xs.length+ys.length=m/\(∀j,xs.length<=j->j<m->JD P N l ds (xs++ys) env H.length H.length j H H)/\K (l.drop m) (Qar ds (xs++ys) env) H
theorem oqOf{xs:List A}:∀(c i:Nat),(∀j,i<=j->j<i+c->JD P N l ds xs env H.length H.length j H H)->Oq P N l ds xs env H i c
 |0,i,_=>.n
 |c+1,i,h=>.c (by grind) (oqOf c (i+1) (by grind))
theorem QnY{id:Nat}{k:List Kf}(m:Nat)(g:P.follows .mixedOrders=true)(n:Go.Sw.draw0 l m N (Qbe m 0 l)=true)(a:Nat.ble h0 H.length=true)
  (h:DS P N m l (Qbe m 0 l) env H (λr e H=>WO P h0 N l.toArray r e H Q) l []):TC P h0 N (.region id l.toArray true) env H Q:=by
 obtain⟨i,f,j,d⟩:=h rfl;simp only[List.length_nil,Xv,Ve]at f j d;exact TC.draw0 m _ i g n (by simp_all) a (oqOf m 0 (by grind)) d
theorem DS.done{xs:List A}{r:List Oper}(d:Nat.beq xs.length m=true)(h:K r (Qar ds xs env) H):DS P N m l ds env H K r xs:=by
 intro a;have e:=XP d;subst a;refine⟨[],by simpa using e,λj g f=>by omega,?_⟩
 grind
theorem DS.add{xs:List A}{o:Oper}{r:List Oper}{x:A}(g:Nat.blt xs.length m=true)(i:∀ys,l[xs.length]?=some o->JD P N l ds (xs++x::ys) env H.length H.length xs.length H H)(k:DS P N m l ds env H K r (xs++[x])):DS P N m l ds env H K (o::r) xs:=by
 intro d;have a:xs.length<l.length:=by
  grind[List.drop_eq_nil_of_le]
 rw[Xp a]at d;cases d;obtain⟨ys,h,f,e⟩:=k (by simp)
 grind
theorem QiD{xs a:List A}{x:A}:(xs++x::a)[xs.length]?=some x:=by simp
theorem DS.wo{xs:List A}{o:Oper}{r:List Oper}{x:A}{d:Nat}(h:WO P H.length N l.toArray [o] (Yq (Qh o) 0 ds xs env) H (Jb (up (Yq (Qh o) 0 ds xs env) d x) H))(k:DS P N m l ds env H K r (xs++[x]))
  (a:o.dst=some d:=by exact rfl)(hx:Nat.blt xs.length m=true:=by exact rfl):DS P N m l ds env H K (o::r) xs:=
 .add hx (λe f=>.woE o _ d x f a QiD (he:=by
  intro s;rcases QkU (af:=Qh o) (env0:=env) (s:=s) ds xs (x::e) 0 with⟨j,y,g,n,p,i⟩|q|q
  .grind
  .grind
  grind) (hdd:=Qes H) (h:=h)) k
theorem DS.v{xs:List A}{o:Oper}{r:List Oper}{x:A}{d:Nat}(h:OpV P o (Yq (Qh o) 0 ds xs env) H x)(k:DS P N m l ds env H K r (xs++[x]))(hg:QE l.toArray o (Yq (Qh o) 0 ds xs env) true:=by exact rfl)
  (hd:o.dst=some d:=by exact rfl)(hN:Nat.blt d N=true:=by exact rfl)(hx:Nat.blt xs.length m=true:=by exact rfl):DS P N m l ds env H K (o::r) xs:=
 .wo (YQ hg hd hN h (WO.nil Jb.mk)) k hd hx
def Qdr:List A->A->FL
 |[],x=>.mk [x]
 |a::r,x=>match Qdr r x with
  |.mk r'=>.mk (a::r')
theorem Jq:∀(l:List A) (x:A),Qdr l x=.mk (l++[x])
 |[],x=>rfl
 |a::r,x=>by unfold Qdr;rw[Jq r];rfl
def Qii(T:TyX)(N m:Nat)(l:List Oper)(ds:List Nat)(env:Env)(H:Qe):Nat->Nat->List Oper->List A->Option (List Oper×List A)
 |0,_,r,xs=>some (r,xs)
 |_+1,_,[],_=>none
 |n+1,i,o::r,xs=>match Nat.blt i m with
  |false=>none
  |true=>match o.dst with
   |none=>none
   |some d=>match Nat.blt d N with
    |false=>none
    |true=>match Y9 ⟨l⟩ o (Yq (Qh o) 0 ds xs env)with
     |none=>none
     |some false=>match Qdr xs (.tup [])with
      |.mk xs'=>Qii T N m l ds env H n (i+1) r xs'
     |some true=>match QdD T o (Yq (Qh o) 0 ds xs env) H with
      |none=>none
      |some x=>match Qdr xs x with
       |.mk xs'=>Qii T N m l ds env H n (i+1) r xs'
theorem Qfl(hT:QaY P T):∀(n i:Nat) {r r':List Oper} {xs xs':List A},i=xs.length->Qii T N m l ds env H n i r xs=some (r',xs')->DS P N m l ds env H K r' xs'->DS P N m l ds env H K r xs
 |0,i,r,r',xs,xs',_,h,k=>by cases h;exact k
 |n+1,i,[],r',xs,xs',_,h,k=>by cases h
 |n+1,i,o::r,r',xs,xs',hi,h,k=>by
  subst hi;unfold Qii at h;split at h
  .cases h
  .rename_i q1;split at h
   .cases h
   .rename_i d hd;split at h
    .cases h
    .rename_i q2;split at h
     .cases h
     .rename_i hw;simp only[Jq]at h;exact .wo (WO.skip (QT hw) hd q2 (WO.nil Jb.mk)) (Qfl hT n _ (by simp) h k) hd q1
     .rename_i hw;split at h
      .cases h
      .rename_i x hv;simp only[Jq]at h;exact .v (Qat hT hv) (Qfl hT n _ (by simp) h k) (QT hw) hd q2 q1
def Qmt:List A->Nat->A->FL
 |[],_,_=>.mk []
 |_::r,0,x=>.mk (x::r)
 |a::r,n+1,x=>match Qmt r n x with
  |.mk r'=>.mk (a::r')
theorem QdF:∀{l:List A} {n:Nat} {x:A},Y5 l n=some x->Qmt l n x=.mk l
 |[],n,x,h=>by cases h
 |a::r,0,x,h=>by cases h;rfl
 |a::r,n+1,x,h=>by unfold Qmt;rw[QdF (l:=r) (n:=n) h]
theorem Qas{α:Type}{b:Bool}{x y:Option α}{v:α}{xs d a:List A}{r:List Oper}(j:Nat)(h:(bif b then x else y)=some v)(i:Y5 xs j=some (.bool b))(f:Qmt xs j (.bool true)=.mk d)(g:Qmt xs j (.bool false)=.mk a)
  (t:b=true->x=some v->DS P N m l ds env H K r d)(e:b=false->y=some v->DS P N m l ds env H K r a):DS P N m l ds env H K r xs:=by
 cases b with
 |true=>simp_all[QdF]
 |false=>simp_all[QdF]
end
@[reducible] def RQ{β:Type}(w:β->A)(Hc:β->Qe)(r:β):A->Qe->Prop:=λa H=>a=w r/\H=Hc r
@[reducible] def Csm{β:Type}(P:Program)(f:FuncId)(args:List A)(H:Qe)(w:β->A)(r:β):Prop:=C P f args H (RQ w (λ_=>H) r)
structure TyZ where
 sl:List (Nat×Nat×Nat)
 fn:List Nat
structure QcH (P:Program) (Z:TyZ):Prop where
 sl:∀e∈Z.sl,(∀w,(underlying e.1).run P w=.ok (.slice e.2.1) w)/\ ∀w,(sizeOf e.2.1).run P w=.ok e.2.2 w
 fn:∀f∈Z.fn,∀(a:Array Value) (w:World),(callFunc f a).run P w=.ok (.enter f a) w
section
variable {P:Program} {Z:TyZ} {h0 N:Nat} {all:Array Oper} {o:Oper} {l:List Oper} {env:Env} {H:Qe} {Q:QR} {d:Nat}
theorem Izz(r:QcH P Z){α:Type}{e:α->List A}{t m k:Nat}{L:List α}{n:IntKind}{i:Int}{v:α}(h:idx L i=some v)(q:ixB o env=some (d,t,k,L.map e,n,i))(g:WO P h0 N all l (up env d (.rp (e v))) H Q)
  (a:Qcz Z.sl t=some (m,k))(hg:Y9 all o env=some true)(j:Nat.blt d N=true):WO P h0 N all (o::l) env H Q:=by
 obtain⟨f,p⟩:=r.sl _ (Qau a);exact Ix h f p q g (QT hg) j
theorem Ize(n:QcH P Z){α:Type}{e:α->List A}{t j k:Nat}{L:List α}{m:IntKind}{i:Int}{v:α}{cs:List A}(h:idx L i=some v)(he:e v=cs)(q:ixB o env=some (d,t,k,L.map e,m,i))(g:WO P h0 N all l (up env d (.rp cs)) H Q)
  (a:Qcz Z.sl t=some (j,k))(hg:Y9 all o env=some true)(f:Nat.blt d N=true):WO P h0 N all (o::l) env H Q:=by
 subst he;exact Izz n h q g a hg f
theorem Lmz(m:QcH P Z){α:Type}{e:α->List A}{t j k h:Nat}{L:List α}(q:lnB o env=some (d,t,.mk (.rsl k (L.map e))))(g:WO P h0 N all l (up env d (.int .i64 L.length)) H Q)
  (a:Qcz Z.sl t=some (j,h))(hg:Y9 all o env=some true)(i:Nat.blt d N=true):WO P h0 N all (o::l) env H Q:=by
 obtain⟨f,n⟩:=m.sl _ (Qau a);exact LnM f q g (QT hg) i
def Qgu(Z:TyZ)(o:Oper)(env:Env):Option (Nat×Nat×List A):=
 match o.dst with
 |none=>none
 |some d=>match o.op with
  |.call {callee:=.value (.func f),args:=⟨xs⟩,argTypes:=_}=>bif QdP Z.fn f then(match fl (Qiv env xs)with|.mk ax=>some (d,f,ax))else none
  |.call {callee:=.value (.tmp x),args:=⟨xs⟩,argTypes:=_}=>match opB env (.tmp x)with
   |.mk (.fn (.func f) vf vc)=>bif QdP Z.fn f then(match fl (vf++(Qiv env xs++vc))with|.mk ax=>some (d,f,ax))else none
   |_=>none
  |_=>none
theorem Qe1(i:QcH P Z){f:Nat}{args:List A}(h:Qgu Z o env=some (d,f,args)):o.dst=some d/\OpC P o env H f args:=by
 unfold Qgu at h;split at h
 .cases h
 .rename_i l g;split at h
  .rename_i a xs k e;cases q:QdP Z.fn a with
   |false=>grind
   |true=>
    rw[q]at h;simp only[QcE,Vl]at h;cases h;exact⟨g,OpC.fn (xs:=xs) (i.fn _ (Qhu q)) e rfl (Qdg xs).symm⟩
  .rename_i x xs k e;split at h
   .rename_i a m n j;cases q:QdP Z.fn a with
    |false=>grind
    |true=>
     rw[q]at h;simp only[QcE,Vl]at h;cases h;exact⟨g,Qk5 (xs:=xs) (i.fn _ (Qhu q)) e rfl (QV j) (by rw[Qdg])⟩
   .cases h
  .cases h
theorem Czz(i:QcH P Z){β γ:Type}{F:Option β}{F':β->Option γ}{r:γ}{f:Nat}{args a:List A}{Hc:Qe}{w:β->A}(π:List Nat)(h:F.bind F'=some r)(q:∀v,F=some v->C P f a Hc (RQ w (λ_=>Hc) v))
  (e:Qgu Z o env=some (d,f,args))(g:∀v,F=some v->F' v=some r->WO P h0 N all l (up env d (w v)) H Q)(x:∀v,Qlf (w v)=some (.mk (w v)))
  (hargs:args=Qag (rho π H.length) a)(n:π.map (λp=>H[p]?)=(Hc.map (Yc (rho π H.length))).map some)(hπ:π.Nodup)(hg:Y9 all o env=some true)(u:Nat.blt d N=true)(m:Nat.ble h0 H.length=true):WO P h0 N all (o::l) env H Q:=by
 obtain⟨v,s,k⟩:=Yl h;obtain⟨j,t⟩:=Qe1 (H:=H) i e
 grind[Pc,QT]
theorem DzZ(u:QcH P Z){K:List Oper->Env->Qe->Prop}{m:Nat}{i:List Oper}{e:List Nat}{xs:List A}{β γ:Type}{F:Option β}{F':β->Option γ}{r:γ}{f:Nat}{args a:List A}{Hc:Qe}{w:β->A}(π:List Nat)(h:F.bind F'=some r)(x:∀v,F=some v->C P f a Hc (RQ w (λ_=>Hc) v))
  (j:Qgu Z o (Yq (Qh o) 0 e xs env)=some (d,f,args))(g:∀v,F=some v->F' v=some r->DS P N m i e env H K l (xs++[w v]))(B:∀v,Qlf (w v)=some (.mk (w v)))
  (hargs:args=Qag (rho π H.length) a)(t:π.map (λp=>H[p]?)=(Hc.map (Yc (rho π H.length))).map some)(hπ:π.Nodup)(hg:Y9 i.toArray o (Yq (Qh o) 0 e xs env)=some true)(z:Nat.blt d N=true)(s:Nat.blt xs.length m=true):DS P N m i e env H K (o::l) xs:=by
 obtain⟨v,n,q⟩:=Yl h;obtain⟨k,y⟩:=Qe1 (H:=H) u j;exact .wo (Pc π k y (x v n) (B v) (WO.nil Jb.mk) hargs t hπ (QT hg) z (by simp)) (g v n q) k s
theorem ln:Qbj H [] []:=trivial
theorem ls{ax d:List A}{a:A}(k:Qbj H ax d)(h:YC a=true:=by exact rfl):Qbj H (a::ax) (a::d):=⟨.inl ⟨rfl,h⟩,k⟩
theorem lo{ax a:List A}{i n k t:Nat}{es:List (List A)}(d:Qbj H ax a)(e:H[i]?=some (.row t k es):=by exact rfl)(hn:es.length=n:=by exact XZ ..):Qbj H (.osl i 0 n k::ax) (.rsl k es::a):=
 ⟨.inr (by grind),d⟩
theorem Cbz(j:QcH P Z){β γ:Type}{F:Option β}{F':β->Option γ}{r:γ}{f:Nat}{args a:List A}{w:β->A}(h:F.bind F'=some r)(k:∀v,F=some v->C P f a [] (RQ w (λ_=>[]) v))
  (e:Qgu Z o env=some (d,f,args))(q:Qbj H args a)(g:∀v,F=some v->F' v=some r->WO P h0 N all l (up env d (w v)) H Q)(t:∀v,Yu (w v)=true)
  (hg:Y9 all o env=some true)(p:Nat.blt d N=true):WO P h0 N all (o::l) env H Q:=by
 obtain⟨v,m,s⟩:=Yl h;obtain⟨i,n⟩:=Qe1 (H:=H) j e;refine Qjb n q (k v m) ?_ ?_ (QT hg) i p
 .grind
 grind
end
def ixL:List Nat:=[0,1,2,3,4,5,6,7,8,9,10,11,12,13,14,15,16,17,18,19,20,21,22,23,24,25,26,27,28,29,30,31,32,33,34,35,36,37,38,39,40,41,42,43,44,45,46,47,48,49,50,51,52,53,54,55,56,57,58,59,60,61,62,63]
def QjD:List Nat->List Nat->Nat->FN
 |a::r,b::s,j=>bif Nat.beq a j then .mk b else QjD r s j
 |_,_,j=>.mk j
mutual
def cpA(sel:List Nat):A->Bx
 |.ptr i off=>match QjD sel ixL i with
  |.mk j=>.mk (.ptr j off)
 |.osl i o n k=>match QjD sel ixL i with
  |.mk j=>.mk (.osl j o n k)
 |.map i=>match QjD sel ixL i with
  |.mk j=>.mk (.map j)
 |.fn f a c=>match cpL sel a,cpL sel c with
  |.mk a',.mk c'=>.mk (.fn f a' c')
 |a=>.mk a
def cpL(sel:List Nat):List A->FL
 |[]=>.mk []
 |a::r=>match cpA sel a,cpL sel r with
  |.mk a',.mk r'=>.mk (a'::r')
end
inductive FV where
 |mk (e:Env)
def QmN(sel:List Nat)(env:Env):List Nat->Env->FV
 |[],nE=>.mk nE
 |s::r,nE=>match lkB env s with
  |.mk a=>match cpA sel a,QmN sel env r nE with
   |.mk a',.mk e=>.mk ((s,a')::e)
def selH(H:Qe):List Nat->List Nat->List (Nat×Blk)->FB
 |a::r,p::ps,[]=>match Y5 H a,selH H r ps []with
  |some b,.mk l=>.mk (b::l)
  |none,.mk l=>.mk l
 |a::r,p::ps,(q,b)::n=>bif Nat.beq p q then(match selH H r ps n with|.mk l=>.mk (b::l))else(match Y5 H a,selH H r ps ((q,b)::n)with
  |some b,.mk l=>.mk (b::l)
  |none,.mk l=>.mk l)
 |_,_,_=>.mk []
def Qno(sel keep:List Nat)(nE:Env)(nH:List (Nat×Blk))(env:Env)(H:Qe):Option (Env×Qe):=
 match QmN sel env keep nE,selH H sel ixL nH with
 |.mk e,.mk h=>some (e,h)
section
variable {P:Program} {h0 N:Nat} {c:Code} {env:Env} {H:Qe} {Q:QR}
def CutQ{β:Type}(h0:Nat)(b:β)(E':β->Env)(H':β->Qe)(Q:QR):QR
 |.normal,env,H=>Le h0 env H (E' b) (H' b)
 |.exit id,env,H=>Q (.exit id) env H
 |.ret,env,H=>Q .ret env H
theorem QF{h0:Nat}{env:Env}{H:Qe}{Q:QR}{β:Type}{b:β}{E':β->Env}{H':β->Qe}(h:Le h0 env H (E' b) (H' b)):CutQ h0 b E' H' Q .normal env H:=h
theorem Ct{β:Type}{E':β->Env}{H':β->Qe}(b:β)(sel keep:List Nat)(nE:β->Env)(nH:β->List (Nat×Blk))(_:∀b,Qno sel keep (nE b) (nH b) env H=some (E' b,H' b))(h:TC P h0 N c env H (CutQ h0 b E' H' Q))(k:∀env H,Le h0 env H (E' b) (H' b)->Q .normal env H):TC P h0 N c env H Q:=
 h.mono λx env' H' q=>by
  cases x with
  |normal=>exact k _ _ q
  |exit id=>exact q
  |ret=>exact q
theorem Jk{S B:Type}{b:Ctl S B}{E':S->Env}{H':S->Qe}(sel keep:List Nat)(nE:S->Env)(nH:S->List (Nat×Blk))(_:∀s,Qno sel keep (nE s) (nH s) env H=some (E' s,H' s))(h:TC P h0 N c env H (Qhc h0 b E' H' Q))(k:∀s env H,b=.cont s->Le h0 env H (E' s) (H' s)->Q .normal env H):TC P h0 N c env H Q:=Qk1 E' H' h k
theorem Lp{S B:Type}{step:S->Option (Ctl S B)}{E':S->Env}{H':S->Qe}{m:Nat}{s0:S}{b0:B}(sel keep:List Nat)(nE:S->Env)(nH:S->List (Nat×Blk))(h:iter step m s0=some b0)(_:∀s,Qno sel keep (nE s) (nH s) env H=some (E' s,H' s))(hI:Le h0 env H (E' s0) (H' s0))
  (body:∀s d,step s=some d->(∀b,d=.done b->b=b0)->TC P h0 N c (E' s) (H' s) (Qbi (λs env H=>Le h0 env H (E' s) (H' s)) d Q)):TC P h0 N (.loop c) env H Q:=TC.loop E' H' h hI body
end
theorem Oj{S B:Type}{d:Ctl S B}{x b0:B}(hb:∀b,d=.done b->b=b0)(h:some (Ctl.done x)=some d):x=b0:=hb x (Oi h).symm
theorem Rt{P:Program}{a:Nat}{fn:Func}{env:Env}{H:Qe}{β:Type}{e r:β}{w:β->A}{Hc:β->Qe}(h:some e=some r)(s:Nat)(π:List Nat)(d:fn.results= #[.tmp s]:=by exact rfl)(hpre:π.take a=List.range a:=by exact rfl)
  (hH:π.map (λp=>H[p]?)=((Hc e).map (Yc (rho π H.length))).map some:=by exact rfl)(hπ:π.Nodup:=by decide)(hE:Qgk (rho π H.length) env [(s,w e)]:=by exact⟨rfl,trivial⟩):QbA P a fn (RQ w Hc r) .ret env H:=by
 cases h;exact R1 s d (Lr π hpre hH hπ hE)
theorem Cl{d:Nat}{env:Env}{H:Qe}{Q:QR}{β:Type}{e b:β}{E':β->Env}{H':β->Qe}(h:some e=some b)(π:List Nat)(a:π.take d=List.range d:=by exact rfl)
  (hH:π.map (λp=>H[p]?)=((H' e).map (Yc (rho π H.length))).map some:=by exact rfl)(hπ:π.Nodup:=by decide)(hE:Qgk (rho π H.length) env (E' e):=by(repeat' (first|exact trivial|refine⟨rfl,?_⟩))):CutQ d b E' H' Q .normal env H:=by
 cases h;exact Lr π a hH hπ hE
def plC(cat:List Nat):List (List (Nat×Nat)):=cat.map λc=>match c with|0=>[(0,0)]|1=>[(0,1)]|2=>[(1,1)]|_=>[(0,0),(1,1)]
def rqC(b:Nat)(cat:List Nat):List (List Nat):=cat.map λc=>match c with|2=>[b]|_=>[]
def hsC(cat:List Nat):List Bool:=cat.map λc=>match c with|1=>true|_=>false
section
variable {P:Program} {T:TyX} {h0 N m b:Nat} {cat:List Nat} {l:List Oper} {ds:List Nat} {env:Env} {H H1:Qe} {Q:QR} {K:List Oper->Env->Qe->Prop}
theorem Qh3{P:Program}{N:Nat}{l:List Oper}{ds:List Nat}{xs:List A}{env0:Env}{hB hE:Nat}:∀(ss:List (List (Qe×Qe))) (b:Nat),(∀i s,ss[i]?=some s->∀p∈s,JD P N l ds xs env0 hB hE (b+i) p.1 p.2)->Qh4 P N l ds xs env0 hB hE b ss
 |[],b,h=>.nil
 |s::ss,b,h=>.cons (h 0 s rfl) (Qh3 ss (b+1) λi s' hs=>by rw[show b+1+i=b+(i+1)by omega];simp_all)
def Dob(P:Program)(N:Nat)(cat:List Nat)(l:List Oper)(ds:List Nat)(env:Env)(H H1:Qe)(zs:List A)(j:Nat):Prop:=
 ∀p∈(plC cat).getD j [],JD P N l ds zs env H.length H.length j ([H,H1].getD p.1 []) ([H,H1].getD p.2 [])
def DB(P:Program)(N m:Nat)(cat:List Nat)(l:List Oper)(ds:List Nat)(env:Env)(H H1:Qe)(K:List Oper->Env->Qe->Prop)(r:List Oper)(xs:List A):Prop:=
 r=l.drop xs.length->∃ys,xs.length+ys.length=m/\(∀j,xs.length<=j->j<m->Dob P N cat l ds env H H1 (xs++ys) j)/\K (l.drop m) (Qar ds (xs++ys) env) H1
def DA(P:Program)(N m:Nat)(cat:List Nat)(l:List Oper)(ds:List Nat)(env:Env)(H:Qe)(K:List Oper->Env->Qe->Prop)(r:List Oper)(xs:List A):Prop:=
 r=l.drop xs.length->∃ys H1,xs.length+ys.length=m/\H.length<=H1.length/\(∀j,xs.length<=j->j<m->Dob P N cat l ds env H H1 (xs++ys) j)/\K (l.drop m) (Qar ds (xs++ys) env) H1
theorem QpM{d:List A}(f:cat.length=m)(g:∀j,0<=j->j<m->Dob P N cat l ds env H H1 d j):Qh4 P N l ds d env H.length (H.length+0) 0 ((plC cat).map λq=>q.map λp=>([H,H1].getD p.1 [],[H,H1].getD p.2 [])):=by
 refine Qh3 _ 0 λi s a p r=>?_;rw[Xo]at a;cases e:(plC cat)[i]? with
 |none=>grind
 |some q=>
  rw[e]at a;cases a;obtain⟨k,h,rfl⟩:=Xf.1 r;have n:i<m:=by
   grind[plC]
  have:=g i (XT _) n k (by grind)
  grind
theorem DA.len(a:H.length<=H1.length):[H,H1].all (λX=>Nat.ble (H.length+0) X.length)=true:=by
 simp_all
theorem Qn0{id:Nat}(m b:Nat)(cat:List Nat)(q:P.follows .mixedOrders=true)(n:Qer l m N (Qbe m 0 l) (hsC cat) (rqC b cat) [[],[b]] (plC cat)=true)(f:Nat.beq cat.length m=true)(d:Nat.ble h0 H.length=true)
  (h:DA P N m cat l (Qbe m 0 l) env H (λr e H=>WO P h0 N l.toArray r e H Q) l []):TC P h0 N (.region id l.toArray true) env H Q:=by
 obtain⟨j,H1,p,k,g,i⟩:=h rfl;simp only[List.length_nil,Xv,Ve]at p g i;have a:=XP f;exact YL m 0 _ _ _ _ _ j [H,H1] H1 q n (by grind) rfl d (DA.len k) (by simp) rfl (QpM a g) (by simp[plC,a]) i
theorem Qbf{xs:List A}{o:Oper}{r:List Oper}(d:o::r=l.drop xs.length):l[xs.length]?=some o/\r=l.drop (xs.length+1):=by
 have a:xs.length<l.length:=by
  grind[List.drop_eq_nil_of_le]
 rw[Xp a]at d
 grind
theorem Qia{zs:List A}{j c:Nat}(d:Y5 cat j=some c)(h:∀p∈(match c with|0=>[(0,0)]|1=>[(0,1)]|2=>[(1,1)]|_=>[(0,0),(1,1)]:List (Nat×Nat)),JD P N l ds zs env H.length H.length j ([H,H1].getD p.1 []) ([H,H1].getD p.2 [])):Dob P N cat l ds env H H1 zs j:=by
 intro p a
 grind[QaA,plC]
theorem Qax{hB hE:Nat}{xs a:List A}{o:Oper}{x:A}{d:Nat}{X X':Qe}(f:l[xs.length]?=some o)(hdd:Qao hB hE X X'=true)(h:WO P X.length N l.toArray [o] (Yq (Qh o) 0 ds xs env) X (Jb (up (Yq (Qh o) 0 ds xs env) d x) X'))(e:o.dst=some d):
  JD P N l ds (xs++x::a) env hB hE xs.length X X':=
 .woE o _ d x f e QiD (he:=by
  intro s;rcases QkU (af:=Qh o) (env0:=env) (s:=s) ds xs (x::a) 0 with⟨j,y,i,g,k,m⟩|q|q
  .grind
  .grind
  grind) (hdd:=hdd) (h:=h)
theorem Jh{n:Nat}{X X':Qe}:Qao n n X X'=true:=by unfold Qao;simp
theorem DA.wo{xs:List A}{o:Oper}{r:List Oper}{x:A}{d:Nat}(h:WO P H.length N l.toArray [o] (Yq (Qh o) 0 ds xs env) H (Jb (up (Yq (Qh o) 0 ds xs env) d x) H))(k:DA P N m cat l ds env H K r (xs++[x]))
  (s:Y5 cat xs.length=some 0:=by exact rfl)(hd:o.dst=some d:=by exact rfl)(hx:Nat.blt xs.length m=true:=by exact rfl):DA P N m cat l ds env H K (o::r) xs:=by
 intro n;obtain⟨u,t⟩:=Qbf n;obtain⟨f,H1,i,g,e,a⟩:=k (by grind);simp only[X0,XY,List.length_nil,Vf,VH,Ve]at i e a;refine⟨x::f,H1,by grind,g,λj y z=>?_,a⟩;rcases Vz xs.length j with q|q
 .grind
 .obtain rfl:j=xs.length:=by omega
  refine Qia s λp w=>?_;obtain rfl:=Vy.1 w;exact Qax u Jh h hd
theorem DA.op{xs:List A}{o:Oper}{r:List Oper}{x:A}{d:Nat}(h:WO P H.length N l.toArray [o] (Yq (Qh o) 0 ds xs env) H (Jb (up (Yq (Qh o) 0 ds xs env) d x) H1))(k:DB P N m cat l ds env H H1 K r (xs++[x]))(w:Nat.ble H.length H1.length=true:=by exact rfl)
  (hc:Y5 cat xs.length=some 1:=by exact rfl)(hd:o.dst=some d:=by exact rfl)(hx:Nat.blt xs.length m=true:=by exact rfl):DA P N m cat l ds env H K (o::r) xs:=by
 intro i;obtain⟨s,n⟩:=Qbf i;obtain⟨f,g,e,a⟩:=k (by grind);simp only[X0,XY,List.length_nil,Vf,VH,Ve]at g e a;refine⟨x::f,H1,by grind,(by simp_all),λj u y=>?_,a⟩;rcases Vz xs.length j with q|q
 .grind
 .obtain rfl:j=xs.length:=by omega
  refine Qia hc λp t=>?_;obtain rfl:=Vy.1 t;exact Qax s Jh h hd
theorem QbH{xs:List A}{o:Oper}{r:List Oper}{x x':A}{d:Nat}{H1':Qe}(h:OpH P o (Yq (Qh o) 0 ds xs env) H x H1)(a:foA x=.mk x')(e:foH H1=.mk H1')(k:DB P N m cat l ds env H H1' K r (xs++[x']))(f:o.dst=some d:=by exact rfl)(hg:Y9 ⟨l⟩ o (Yq (Qh o) 0 ds xs env)=some true:=by exact rfl)(hN:Nat.blt d N=true:=by exact rfl)(hl:Nat.ble H.length H1'.length=true:=by exact rfl)
  (hc:Y5 cat xs.length=some 1:=by exact rfl)(hx:Nat.blt xs.length m=true:=by exact rfl):DA P N m cat l ds env H K (o::r) xs:=by
 rw[QhA]at a;rw[QjM]at e;cases a;cases e;exact .op (QhX (XS _) (QT hg) f hN h (WO.nil Jb.mk)) k hl hc f hx
theorem DB.done{xs:List A}{r:List Oper}(d:Nat.beq xs.length m=true)(h:K r (Qar ds xs env) H1):DB P N m cat l ds env H H1 K r xs:=by
 intro a;have e:=XP d;subst a;refine⟨[],by simpa using e,λj g f=>by omega,?_⟩
 grind
theorem DB.add{xs:List A}{o:Oper}{r:List Oper}{x:A}(i:∀ys,l[xs.length]?=some o->Dob P N cat l ds env H H1 (xs++x::ys) xs.length)(k:DB P N m cat l ds env H H1 K r (xs++[x])):DB P N m cat l ds env H H1 K (o::r) xs:=by
 intro a;obtain⟨h,d⟩:=Qbf a;obtain⟨ys,f,e,g⟩:=k (by grind)
 grind
theorem DB.wo1{xs:List A}{o:Oper}{r:List Oper}{x:A}{d:Nat}(h:WO P H1.length N l.toArray [o] (Yq (Qh o) 0 ds xs env) H1 (Jb (up (Yq (Qh o) 0 ds xs env) d x) H1))(k:DB P N m cat l ds env H H1 K r (xs++[x]))
  (f:Y5 cat xs.length=some 2:=by exact rfl)(hd:o.dst=some d:=by exact rfl):DB P N m cat l ds env H H1 K (o::r) xs:=
 .add (λg a=>Qia f λp e=>by
  obtain rfl:=Vy.1 e;exact Qax a Jh h hd) k
theorem DB.wo2{xs:List A}{o:Oper}{r:List Oper}{x:A}{d:Nat}(h:WO P H.length N l.toArray [o] (Yq (Qh o) 0 ds xs env) H (Jb (up (Yq (Qh o) 0 ds xs env) d x) H))(f:WO P H1.length N l.toArray [o] (Yq (Qh o) 0 ds xs env) H1 (Jb (up (Yq (Qh o) 0 ds xs env) d x) H1))(k:DB P N m cat l ds env H H1 K r (xs++[x]))
  (g:Y5 cat xs.length=some 3:=by exact rfl)(hd:o.dst=some d:=by exact rfl):DB P N m cat l ds env H H1 K (o::r) xs:=
 .add (λi e=>Qia g λp a=>by
  rcases X4.1 a with rfl|a
  .exact Qax e Jh h hd
  .obtain rfl:=Vy.1 a;exact Qax e Jh f hd) k
def Qij(T:TyX)(N m:Nat)(cat:List Nat)(l:List Oper)(ds:List Nat)(env:Env)(H:Qe):Nat->Nat->List Oper->List A->Option (List Oper×List A)
 |0,_,r,xs=>some (r,xs)
 |_+1,_,[],_=>none
 |n+1,i,o::r,xs=>match Nat.blt i m,Y5 cat i with
  |true,some 0=>match o.dst with
   |none=>none
   |some d=>match Nat.blt d N with
    |false=>none
    |true=>match Y9 ⟨l⟩ o (Yq (Qh o) 0 ds xs env)with
     |none=>none
     |some false=>match Qdr xs (.tup [])with
      |.mk xs'=>Qij T N m cat l ds env H n (i+1) r xs'
     |some true=>match QdD T o (Yq (Qh o) 0 ds xs env) H with
      |none=>none
      |some x=>match Qdr xs x with
       |.mk xs'=>Qij T N m cat l ds env H n (i+1) r xs'
  |_,_=>none
theorem Qfo(hT:QaY P T):∀(n i:Nat) {r r':List Oper} {xs xs':List A},i=xs.length->Qij T N m cat l ds env H n i r xs=some (r',xs')->DA P N m cat l ds env H K r' xs'->DA P N m cat l ds env H K r xs
 |0,i,r,r',xs,xs',_,h,k=>by cases h;exact k
 |n+1,i,[],r',xs,xs',_,h,k=>by cases h
 |n+1,i,o::r,r',xs,xs',hi,h,k=>by
  subst hi;unfold Qij at h;split at h
  .rename_i q1 q0;split at h
   .cases h
   .rename_i d hd;split at h
    .cases h
    .rename_i q2;split at h
     .cases h
     .rename_i hw;simp only[Jq]at h;exact .wo (WO.skip (QT hw) hd q2 (WO.nil Jb.mk)) (Qfo hT n _ (by simp) h k) q0 hd q1
     .rename_i hw;split at h
      .cases h
      .rename_i x hv;simp only[Jq]at h;exact .wo (YQ (QT hw) hd q2 (Qat hT hv) (WO.nil Jb.mk)) (Qfo hT n _ (by simp) h k) q0 hd q1
  .cases h
theorem Qoe{H:Qe}{p:Bx}{r:Lx}(h:ptX [] p=some r):ptX H p=some r:=by
 unfold ptX at h⊢
 grind[Y5]
theorem Qe9{o:Oper}{e:Env}{H:Qe}{x:A}(h:QdD T o e []=some x):QdD T o e H=some x:=by
 unfold QdD at h⊢;split at h<;>first|exact h|skip
 rename_i t y a;split at h
 .cases h
 grind[Qoe]
def Qfn(T:TyX)(N:Nat)(cat:List Nat)(l:List Oper)(ds:List Nat)(env:Env)(H1:Qe):Nat->Nat->List Oper->List A->Option (List Oper×List A)
 |0,_,r,xs=>some (r,xs)
 |_+1,_,[],_=>none
 |n+1,i,o::r,xs=>match o.dst with
  |none=>none
  |some d=>match Nat.blt d N with
   |false=>none
   |true=>match Y9 ⟨l⟩ o (Yq (Qh o) 0 ds xs env)with
    |none=>none
    |some false=>match Y5 cat i with
     |some 2=>(match Qdr xs (.tup [])with
      |.mk xs'=>Qfn T N cat l ds env H1 n (i+1) r xs')
     |some 3=>(match Qdr xs (.tup [])with
      |.mk xs'=>Qfn T N cat l ds env H1 n (i+1) r xs')
     |_=>none
    |some true=>match Y5 cat i with
     |some 2=>(match QdD T o (Yq (Qh o) 0 ds xs env) H1 with
      |none=>none
      |some x=>match Qdr xs x with
       |.mk xs'=>Qfn T N cat l ds env H1 n (i+1) r xs')
     |some 3=>(match QdD T o (Yq (Qh o) 0 ds xs env) []with
      |none=>none
      |some x=>match Qdr xs x with
       |.mk xs'=>Qfn T N cat l ds env H1 n (i+1) r xs')
     |_=>none
theorem QbT(hT:QaY P T):∀(n i:Nat) {r r':List Oper} {xs xs':List A},i=xs.length->Qfn T N cat l ds env H1 n i r xs=some (r',xs')->DB P N m cat l ds env H H1 K r' xs'->DB P N m cat l ds env H H1 K r xs
 |0,i,r,r',xs,xs',_,h,k=>by cases h;exact k
 |n+1,i,[],r',xs,xs',_,h,k=>by cases h
 |n+1,i,o::r,r',xs,xs',hi,h,k=>by
  subst hi;unfold Qfn at h;split at h
  .cases h
  .rename_i d hd;split at h
   .cases h
   .rename_i q2;split at h
    .cases h
    .rename_i hw;split at h
     .rename_i q0;simp only[Jq]at h;exact .wo1 (WO.skip (QT hw) hd q2 (WO.nil Jb.mk)) (QbT hT n _ (by simp) h k) q0 hd
     .rename_i q0;simp only[Jq]at h;exact .wo2 (WO.skip (QT hw) hd q2 (WO.nil Jb.mk)) (WO.skip (QT hw) hd q2 (WO.nil Jb.mk)) (QbT hT n _ (by simp) h k) q0 hd
     .cases h
    .rename_i hw;split at h
     .rename_i q0;split at h
      .cases h
      .rename_i x hv;simp only[Jq]at h;exact .wo1 (YQ (QT hw) hd q2 (Qat hT hv) (WO.nil Jb.mk)) (QbT hT n _ (by simp) h k) q0 hd
     .rename_i q0;split at h
      .cases h
      .rename_i x hv;simp only[Jq]at h;exact .wo2 (YQ (QT hw) hd q2 (Qat hT (Qe9 hv)) (WO.nil Jb.mk)) (YQ (QT hw) hd q2 (Qat hT (Qe9 hv)) (WO.nil Jb.mk)) (QbT hT n _ (by simp) h k) q0 hd
     .cases h
end
def chkF(L:List (Nat×List (Nat×Nat)))(fs:List (Nat×Nat×Nat)):Bool:=
 fs.all λe=>match Qcz L e.1 with
  |some pl=>(match Y5 pl e.2.1 with
   |some q=>Nat.beq q.1 e.2.2&& !(Nat.beq q.2 0)
   |none=>false)
  |none=>false
theorem PL.get{P:Program}{fs:List Field}{a:List (Nat×Nat)}(h:PL P fs a):∀{f off n:Nat},Y5 a f=some (off,n)->∃fd,fs[f]?=some fd/\fd.offset=off/\ ∀w,(sizeOf fd.type).run P w=.ok n w:=by
 induction h with
 |nil=>intro f off n h;cases h
 |cons h k e=>
  intro f off n d;cases f with
  |zero=>cases d;grind
  |succ f=>grind[Y5]
theorem Qpx{P:Program}{L:List (Nat×List (Nat×Nat))}{fs:List (Nat×Nat×Nat)}(s:∀e∈L,Qd0 P e.1 e.2)(h:chkF L fs=true):∀e∈fs,∃n,QK P e.1 e.2.1 e.2.2 n:=by
 intro e m;have:=Xt.1 h e m;split at this
 .rename_i t a;split at this
  .rename_i q i;obtain⟨g,n⟩:=q;simp only[XV,Bool.not_eq_true']at this;have r:=XP this.1;obtain⟨j,k,f⟩:=s _ (Qau a);obtain⟨p,u,l,d⟩:=PL.get f i;refine⟨n,⟨⟨_,p,k,by grind,l.trans r,d,?_⟩⟩⟩
   grind[Nat.beq_refl]
  .cases this
 .cases this
section
variable {P:Program} {Z:TyZ} {h0 N:Nat} {all:Array Oper} {o:Oper} {l:List Oper} {env:Env} {H:Qe} {Q:QR} {d:Nat}
theorem Cdz(m:QcH P Z){β γ:Type}{F:Option β}{F':β->Option γ}{r:γ}{f:Nat}{args a:List A}{Hc:Qe}{w:β->A}{Hr:β->Qe}(π:List Nat)(h:F.bind F'=some r)(n:∀v,F=some v->C P f a Hc (RQ w Hr v))
  (e:Qgu Z o env=some (d,f,args))(g:∀v,F=some v->F' v=some r->WO P h0 N all l (up env d (Y4 (rho π H.length) (w v))) (Yx H π ((Hr v).map (Yc (rho π H.length)))) Q)
  (hargs:args=Qag (rho π H.length) a)(k:π.map (λp=>H[p]?)=(Hc.map (Yc (rho π H.length))).map some)(hπ:π.Nodup)(hg:Y9 all o env=some true)(t:Nat.blt d N=true)(j:Nat.ble h0 H.length=true):WO P h0 N all (o::l) env H Q:=by
 obtain⟨v,q,u⟩:=Yl h;obtain⟨i,s⟩:=Qe1 (H:=H) m e;refine Qo π s (n v q) ?_ hargs k hπ (QT hg) i t j
 grind
end
inductive FLL where
 |mk (l:List (List A))
def cpLL(sel:List Nat):List (List A)->FLL
 |[]=>.mk []
 |a::r=>match cpL sel a,cpLL sel r with
  |.mk a',.mk r'=>.mk (a'::r')
inductive FBk where
 |mk (b:Blk)
def cpBk(sel:List Nat):Blk->FBk
 |.cells t cs=>match cpL sel cs with
  |.mk l=>.mk (.cells t l)
 |.rowr t k es=>match cpLL sel es with
  |.mk l=>.mk (.rowr t k l)
 |.wins t a n c=>match QjD sel ixL a with
  |.mk a'=>.mk (.wins t a' n c)
 |.ents t a b es=>match QjD sel ixL a,QjD sel ixL b with
  |.mk a',.mk b'=>.mk (.ents t a' b' es)
 |b=>.mk b
def selD(H:Qe)(sel:List Nat):List Nat->FB
 |[]=>.mk []
 |a::r=>match Y5 H a with
  |some b=>(match cpBk sel b,selD H sel r with
   |.mk b',.mk l=>.mk (b'::l))
  |none=>.mk []
def retC(sel sl:List Nat)(env:Env)(H:Qe):Option (Env×Qe):=
 match QmN sel env sl [],selD H sel sel with
 |.mk e,.mk h=>some (e,h)
theorem Rx{P:Program}{f:Nat}{fn:Func}{env E':Env}{H H':Qe}{Qr:A->Qe->Prop}{e:A}(π sl:List Nat)(_:retC π sl env H=some (E',H'))(a:QcI P fn E' H' e)(g:Qr e H')(d:π.take f=List.range f:=by exact rfl)
  (hH:π.map (λp=>H[p]?)=(H'.map (Yc (rho π H.length))).map some:=by exact rfl)(hπ:π.Nodup:=by decide)(hE:Qgk (rho π H.length) env E':=by(repeat' (first|exact trivial|refine⟨rfl,?_⟩))):QbA P f fn Qr .ret env H:=
 ⟨E',H',e,Lr π d hH hπ hE,a,g⟩
def nxL{T:Type}:List T->T->List T->Prop:=λl x rem=>l=x::rem
def runL{S T B:Type}(step:S->T->Option (Ctl S B)):List T->S->Option (Ctl S B)
 |[],s=>some (.cont s)
 |x::l,s=>(step s x).bind λd=>match d with
  |.cont s'=>runL step l s'
  |.done b=>some (.done b)
def QbY{S T B:Type}(step:S->Option (List T×Ctl S B)):Nat->S->Option (List T×B)
 |0,_=>none
 |n+1,s=>(step s).bind λp=>match p.2 with
  |.cont s'=>(QbY step n s').bind λq=>some (p.1++q.1,q.2)
  |.done b=>some (p.1,b)
def QnI{S B:Type}(h1:Nat)(env:Env)(Q:QR)(d:Ctl S B)(Hp:S->Qe):QR
 |.normal,env',H'=>∃s,d=.cont s/\Le h1 env' H' [] (Hp s)
 |.exit id,env',H'=>(∃b,d=.done b)/\ ∃H2,Le h1 env' H' [] H2/\Q (.exit id) env H2
 |.ret,env',H'=>(∃b,d=.done b)/\ ∃H2,Le h1 env' H' [] H2/\Q .ret env H2
theorem Qc6{S B:Type}{h1:Nat}{env env':Env}{H':Qe}{Q:QR}{s:S}{d:Ctl S B}{Hp:S->Qe}(e:some (Ctl.cont s)=some d)(h:Le h1 env' H' [] (Hp s)):QnI h1 env Q d Hp .normal env' H':=⟨s,(Oi e).symm,h⟩
theorem Qbh{P:Program}{h0 N:Nat}{m:Operand}{ps:List Nat}{assign body:Code}{env:Env}{H:Qe}{Q:QR}{f:FuncId}{g a:List A}{Hc:Qe}{T S B:Type}{enc:T->List A}{xs:List T}{step:S->T->Option (Ctl S B)}{z:S}{D:Ctl S B}
  (π:List Nat)(Hp:S->Qe)(h:runL step xs z=some D)(n:QnG P f a Hc enc nxL xs)(r:∀x,(enc x).length=ps.length)(O:∀args w,(callFunc f args).run P w=.ok (.enter f args) w)
  (W:Nat.ble h0 H.length=true)(hg:opA env m=.fn (.func f) [] g)(hargs:g=Qag (rho π H.length) a)(G:π.map (λp=>H[p]?)=(Hc.map (Yc (rho π H.length))).map some)(hπ:π.Nodup)(y:(ps.all λp=>Nat.blt p N)=true)
  (k:Le H.length env (Qeg H π) env (Hp z))
  (i:∀s x d,step s x=some d->(∀b,d=.done b->D=.done b)->TC P H.length N assign (Qml ps (enc x) env) (Hp s) λe env1 H1=>e=.normal/\TC P H.length N body env1 H1 (QnI H.length env Q d Hp))
  (j:∀s,D=.cont s->Q .normal env (Hp s)):TC P h0 N (.rangeFunc m ps.toArray assign body) env H Q:=by
 refine TC.rangeFunc π Hp (λs l=>runL step l s=some D) z (by simp_all) hg hargs G hπ y O n r k h ?_ ?_
 .rintro s l x rem u rfl;obtain⟨d,L,u⟩:=Yl u;refine(i s x d L ?_).mono ?_
  .grind
  .rintro e env1 H1 ⟨R,V⟩;refine⟨R,V.mono ?_⟩;intro J E H2 q;cases J with
   |normal=>
    obtain⟨F,rfl,k⟩:=q;exact⟨Hp F,k,F,u,rfl⟩
   |exit id=>
    obtain⟨_,H3,t,q⟩:=q;exact⟨H3,t,q⟩
   |ret=>
    obtain⟨_,H3,t,q⟩:=q;exact⟨H3,t,q⟩
 .intro s M;exact j s (Oi M).symm
section
variable {T:Type} {X:Ctx T} {P:Program} {h0 N:Nat} {c:Code} {env:Env} {H:Qe} {st:YSt T} {Q:YS T}
def Qgi{S B:Type}(h0:Nat)(E:S->Env)(Hp:S->Qe)(d:Ctl S B)(rest:List T)(Q:YS T):YS T
 |.normal,env,H,st=>∃s,d=.cont s/\Le h0 env H (E s) (Hp s)/\st=.on rest
 |.exit id,env,H,st=>Q (.exit id) env H st
 |.ret,env,H,st=>Q .ret env H st
theorem QlR{S B:Type}{step:S->Option (List T×Ctl S B)}{E:S->Env}{Hp:S->Qe}{m:Nat}{i:S}{j rem:List T}{b:B}(h:QbY step m i=some (j,b))(w:Le h0 env H (E i) (Hp i))
  (body:∀s zs d rest,step s=some (zs,d)->(∀b',d=.done b'->b'=b/\rest=rem)->TCy X P h0 N c (E s) (Hp s) (.on (zs++rest)) (Qgi h0 E Hp d rest Q)):TCy X P h0 N (.loop c) env H (.on (j++rem)) Q:=by
 refine QlS (I:=λn env H r=>∃s a,QbY step n s=some (a,b)/\r=.on (a++rem)/\Le h0 env H (E s) (Hp s)) ?_ ⟨i,j,h,rfl,w⟩;rintro n env H r ⟨s,a,f,rfl,l⟩;cases n with
 |zero=>cases f
 |succ n=>
  obtain⟨⟨zs,d⟩,t,f⟩:=Yl f;refine QpH l ?_;cases d with
  |cont z=>
   obtain⟨⟨u,G⟩,y,f⟩:=Yl f;cases f;rw[Vf];refine(body s zs (.cont z) (u++rem) t (λb' e=>by cases e)).mono ?_;rintro x g H' k q;cases x with
   |normal=>
    obtain⟨F,e,p,rfl⟩:=q;cases e;exact⟨n,Xn n,_,_,y,rfl,p⟩
   |exit id=>exact q
   |ret=>exact q
  |done b'=>
   cases f;refine(body s _ (.done b) rem t (λb' e=>by cases e;exact⟨rfl,rfl⟩)).mono ?_;rintro x g H' k q;cases x with
   |normal=>obtain⟨F,e,_⟩:=q;cases e
   |exit id=>exact q
   |ret=>exact q
def kqY(X:Ctx T)(P:Program)(h0 N:Nat):List Kf->YS T->YS T
 |[],Q=>Q
 |.seq c::k,Q=>SeqY X P h0 N c (kqY X P h0 N k Q)
 |.blo id::k,Q=>BloY id (kqY X P h0 N k Q)
 |.unr c::k,Q=>λ_ _ _ _=>False
@[reducible] def HdY(X:Ctx T)(P:Program)(h0 N:Nat):Cf->List Kf->Env->Qe->YSt T->YS T->Prop
 |.code c,k,env,H,st,Q=>TCy X P h0 N c env H st (kqY X P h0 N k Q)
 |.ops all l,k,env,H,st,Q=>WOy X P h0 N all l env H st (kqY X P h0 N k Q)
 |.out x,k,env,H,st,Q=>kqY X P h0 N k Q x env H st
def QoU:Cf->List Kf->Bool
 |.code (.loop _),_=>false
 |.out _,.unr _::_=>false
 |_,_=>true
theorem Qmm{Tx:TyX}(i:QaY P Tx){c f:Cf}{k d:List Kf}{env env':Env}{H H':Qe}(h:QgB Tx h0 N c k env H=some (f,d,env',H'))(a:QoU c k=true)(g:HdY X P h0 N f d env' H' st Q):HdY X P h0 N c k env H st Q:=by
 unfold QgB at h;split at h
 .cases h;exact TCy.seq g
 .cases h;exact TCy.block g
 .cases a
 .cases h;exact TCy.skip g
 .cases h;exact TCy.ret g
 .cases h;exact TCy.exit g
 .cases h;exact TCy.region g
 .grind[TCy.cond,QV]
 .cases h;exact WOy.nil g
 .split at h
  .rename_i q;cases h;exact WOy.step (Qjs i q (WO.nil ⟨rfl,g⟩))
  .cases h
 .cases h;exact g
 .cases h;exact g
 .cases h;exact g
 .cases h;exact g
 .split at h
  .rename_i q;cases h;have e:=XP q;subst e;show(bif Nat.beq _ _ then _ else _)
   grind
  .rename_i q;cases h;show(bif Nat.beq _ _ then _ else _)
   grind
 .cases h;exact g
 .cases a
 .cases a
 .cases a
 .cases h
def Qlh(Tx:TyX)(h0 N:Nat):Nat->Cf->List Kf->Env->Qe->Option (Cf×List Kf×Env×Qe)
 |0,c,k,env,H=>some (c,k,env,H)
 |n+1,c,k,env,H=>match QoU c k with
  |true=>(match QgB Tx h0 N c k env H with
   |some (c',k',env',H')=>Qlh Tx h0 N n c' k' env' H'
   |none=>none)
  |false=>none
theorem QeK{Tx:TyX}(hT:QaY P Tx):∀(n:Nat) {c c':Cf} {k k':List Kf} {env env':Env} {H H':Qe},Qlh Tx h0 N n c k env H=some (c',k',env',H')->HdY X P h0 N c' k' env' H' st Q->HdY X P h0 N c k env H st Q
 |0,c,c',k,k',env,env',H,H',h,g=>by cases h;exact g
 |n+1,c,c',k,k',env,env',H,H',h,g=>by
  unfold Qlh at h;split at h
  .rename_i hn;split at h
   .rename_i e;exact Qmm hT e hn (QeK hT n h g)
   .cases h
  .cases h
theorem TCy.lf{k:List Kf}(h:TC P h0 N c env H (λx env H=>kqY X P h0 N k Q x env H st)):TCy X P h0 N c env H st (kqY X P h0 N k Q):=TCy.lift h
theorem QpE{all:Array Oper}{o:Oper}{r:List Oper}{d:Nat}{x:T}{l:List T}{e:T->A}{y z:Operand}{g:Array TypeId}(hE:X.enc=λx=>[e x])(i:X.nx=nxL)(j:o.op=.call {callee:=.value y,args:= #[z],argTypes:=g})(a:opA env y=.fn (.yield X.l) [] [])(f:opA env z=e x)(h:YC (e x)=true)
  (k:WOy X P h0 N all r (up env d (.bool true)) H (.on l) Q)(m:WOy X P h0 N all r (up env d (.bool false)) H (.off l) Q)(hg:QE all o env true:=by exact rfl)(hd:o.dst=some d:=by exact rfl)(hNd:Nat.blt d N=true:=by exact rfl):WOy X P h0 N all (o::r) env H (.on (x::l)) Q:=by
 refine WOy.yield (x:=x) (rem:=l) (by rw[i];rfl) hg hd hNd ?_ ?_
 .rw[hE];exact Qmf j a f h
 grind
theorem WOy.y2{all:Array Oper}{o:Oper}{r:List Oper}{d:Nat}{x:T}{l:List T}{i f:T->A}{y j k:Operand}{n:Array TypeId}(hE:X.enc=λx=>[i x,f x])(p:X.nx=nxL)(q:o.op=.call {callee:=.value y,args:= #[j,k],argTypes:=n})(m:opA env y=.fn (.yield X.l) [] [])(h:opA env j=i x)(e:opA env k=f x)(g:YC (i x)=true)(a:YC (f x)=true)
  (s:WOy X P h0 N all r (up env d (.bool true)) H (.on l) Q)(t:WOy X P h0 N all r (up env d (.bool false)) H (.off l) Q)(hg:QE all o env true:=by exact rfl)(hd:o.dst=some d:=by exact rfl)(hNd:Nat.blt d N=true:=by exact rfl):WOy X P h0 N all (o::r) env H (.on (x::l)) Q:=by
 refine WOy.yield (x:=x) (rem:=l) (by rw[p];rfl) hg hd hNd ?_ ?_
 .rw[hE];exact Qle q m h e g a
 grind
end
def yl{T R:Type}(x:T)(k:Option (List T×R)):Option (List T×R):=k.bind λp=>some (x::p.1,p.2)
def ap{T B R:Type}(a:Option (List T×B))(k:B->Option (List T×R)):Option (List T×R):=a.bind λp=>(k p.2).bind λq=>some (p.1++q.1,q.2)
theorem yl_ok{T R:Type}{x:T}{k:Option (List T×R)}{a:List T}{v:R}(h:yl x k=some (a,v)):∃zs,k=some (zs,v)/\a=x::zs:=by
 obtain⟨⟨zs,e⟩,d,f⟩:=Yl h
 grind
theorem ap_ok{T B R:Type}{a:Option (List T×B)}{k:B->Option (List T×R)}{d:List T}{v:R}(h:ap a k=some (d,v)):∃y1 b y2,a=some (y1,b)/\k b=some (y2,v)/\d=y1++y2:=by
 obtain⟨⟨y1,b⟩,g,e⟩:=Yl h;obtain⟨⟨y2,j⟩,f,i⟩:=Yl e
 grind
section
variable {T:Type} {X:Ctx T} {P:Program} {h0 N:Nat} {c c':Code} {env:Env} {H:Qe} {st:YSt T} {Q:YS T}
def Qn1{β:Type}(h0:Nat)(b:β)(E':β->Env)(H':β->Qe)(rem:List T)(Q:YS T):YS T
 |.normal,env,H,st=>Le h0 env H (E' b) (H' b)/\st=.on rem
 |.exit id,env,H,st=>Q (.exit id) env H st
 |.ret,env,H,st=>Q .ret env H st
theorem Qny{β:Type}{E':β->Env}{H':β->Qe}(b:β)(rem:List T)(sel keep:List Nat)(nE:β->Env)(nH:β->List (Nat×Blk))(_:∀b,Qno sel keep (nE b) (nH b) env H=some (E' b,H' b))(h:TCy X P h0 N c env H st (Qn1 h0 b E' H' rem Q))(k:∀env H,Le h0 env H (E' b) (H' b)->Q .normal env H (.on rem)):TCy X P h0 N c env H st Q:=
 h.mono λx env' H' st' q=>by
  cases x with
  |normal=>obtain⟨q1,rfl⟩:=q;grind
  |exit id=>exact q
  |ret=>exact q
theorem cutYN{β:Type}{b:β}{E':β->Env}{H':β->Qe}{rem:List T}(h:Le h0 env H (E' b) (H' b)):Qn1 h0 b E' H' rem Q .normal env H (.on rem):=⟨h,rfl⟩
theorem cutYR{β:Type}{b:β}{E':β->Env}{H':β->Qe}{rem:List T}(h:Q .ret env H st):Qn1 h0 b E' H' rem Q .ret env H st:=h
theorem QpG{S B:Type}{step:S->Option (List T×Ctl S B)}{E':S->Env}{H':S->Qe}{m:Nat}{s0:S}{ys rem:List T}{b:B}(sel keep:List Nat)(nE:S->Env)(nH:S->List (Nat×Blk))(h:QbY step m s0=some (ys,b))(_:∀s,Qno sel keep (nE s) (nH s) env H=some (E' s,H' s))(hI:Le h0 env H (E' s0) (H' s0))
  (body:∀s zs d rest,step s=some (zs,d)->(∀b',d=.done b'->b'=b/\rest=rem)->TCy X P h0 N c (E' s) (H' s) (.on (zs++rest)) (Qgi h0 E' H' d rest Q)):TCy X P h0 N (.loop c) env H (.on (ys++rem)) Q:=QlR h hI body
theorem Qpr{S B:Type}{E':S->Env}{H':S->Qe}{s:S}{d:Ctl S B}{zs rest:List T}(e:some (([]:List T),Ctl.cont s)=some (zs,d))(h:Le h0 env H (E' s) (H' s)):Qgi h0 E' H' d rest Q .normal env H (.on (zs++rest)):=by
 cases e;exact⟨s,rfl,h,rfl⟩
theorem Qpp{S B:Type}{id:Nat}{E':S->Env}{H':S->Qe}{d:Ctl S B}{rest:List T}(h:Q (.exit id) env H st):Qgi h0 E' H' d rest Q (.exit id) env H st:=h
theorem Qpq{S B:Type}{E':S->Env}{H':S->Qe}{d:Ctl S B}{rest:List T}(h:Q .ret env H st):Qgi h0 E' H' d rest Q .ret env H st:=h
theorem Oy{S B:Type}{d:Ctl S B}{x b:B}{zs rest rem:List T}(a:∀b',d=.done b'->b'=b/\rest=rem)(h:some (([]:List T),Ctl.done x)=some (zs,d)):zs=[]/\b=x/\rest=rem:=by
 grind
theorem Qjc{f:FuncId}{fn:Func}{c:Code}{N:Nat}{a:List A}{H:Qe}{enc:T->List A}{xs:List T}(e:P.funcs[f]?=some fn)(i:fn.body=some c)(d:fn.ntmps=N)(g:Nat.ble (a.length+1) N=true)(j:fn.results= #[])
  (h:∀X:Ctx T,X.enc=enc->X.nx=nxL->TCy X P H.length N c (Qep 0 (.fn (.yield X.l) [] []::a)) H (.on (xs++[])) EndY):QnG P f a H enc nxL xs:=by
 grind[QhY]
end
open Go.MapKept
section
variable {fr ro:Nat->Prop} {σ:Sig} {H:Qe} {w:World}
end
end Go.Sw
namespace Go.Sw
open Go.MapKept
def QbL{α β:Type}(ek:α->A)(ev:β->List A)(l:List (α×Option (List β))):List (A×Option (List (List A))):=l.map λp=>(ek p.1,p.2.map (List.map ev))
def Qkw{α β:Type}[DecidableEq α](l:List (α×Option (List β)))(x:α):List (α×Option (List β)):=l.map λp=>bif decide (p.1=x)then(p.1,none)else p
section
variable {P:Program} {kt:TypeId} {α β:Type} [DecidableEq α] {ek:α->A} {ev:β->List A} {ro:Nat->Prop} {w:World} {t k:Nat} (K:Qaa P kt ek)
include K
theorem Qk6{x:α}:∀{l:List (α×Option (List β))} {es:List MapEntry},MO ro w t k (QbL ek ev l) es->MO ro w t k (QbL ek ev (Qkw l x)) es
 |[],es,h=>h
 |p::l,es,h=>by
  obtain⟨e,l',rfl,h1,h2,h3⟩:=h;by_cases q:p.1=x
  .refine⟨e,l',rfl,by grind,λrows hr=>?_,Qk6 (l:=l) h3⟩
   grind
  .refine⟨e,l',rfl,by grind,(by grind),Qk6 (l:=l) h3⟩
omit K
theorem Qd4{x:α}{c:Nat}:∀{l:List (α×Option (List β))} {es:List MapEntry},QeF (QbL ek ev (Qkw l x)) es c->QeF (QbL ek ev l) es c
 |[],es,h=>by cases es<;>exact h.elim
 |p::l,[],h=>h.elim
 |p::l,e::es,h=>by
  rcases h with⟨h1,h2⟩|h
  .by_cases q:p.1=x
   .grind
   .exact .inl ⟨by grind,h2⟩
  .exact .inr (Qd4 (l:=l) h)
theorem Qmb{x:α}:∀{l:List (α×Option (List β))} {es:List MapEntry},Qkf (QbL ek ev l) es->Qkf (QbL ek ev (Qkw l x)) es
 |[],es,h=>by cases es<;>trivial
 |p::l,[],h=>trivial
 |p::l,e::es,h=>by
  obtain⟨h1,h2⟩:=h;refine⟨λc q1 q2 q3=>?_,Qmb (l:=l) h2⟩;by_cases q:p.1=x
  .grind
  .exact h1 c (by grind) q2 (Qd4 (l:=l) q3)
include K
theorem MO.find:∀{l:List (α×Option (List β))} {es:List MapEntry},MO ro w t k (QbL ek ev l) es->∀(x:α),(es.map (·.key)).Nodup->
  ((∀e:MapEntry,e∈es->e.key≠QP (ek x))->YX l x=none)/\
  (∀(j:Nat) (e:MapEntry),es[j]?=some e->e.key=QP (ek x)->∃q,YX l x=some q/\(∀rows,q=some rows->SO ro w t k (rows.map ev) e.val)/\
   ∀c p n cap,q.isSome=true->e.val=.slice (some ⟨c,p,none⟩) n cap->QeF (QbL ek ev l) es c/\(Qkf (QbL ek ev l) es->¬QeF (QbL ek ev (Qkw l x)) es c))
 |[],es,h,x,_=>by
  cases(show es=[]from h);exact⟨λ_=>rfl,(by simp)⟩
 |p::l,es,h,x,hn=>by
  obtain⟨e0,l',rfl,h1,h2,h3⟩:=h;have hk:e0.key=QP (ek p.1):=VR.val (K.scl _) h1;simp only[Vg,List.nodup_cons]at hn;obtain⟨a1,a2⟩:=MO.find (l:=l) h3 x hn.2;by_cases hp:p.1=x
  .subst hp;constructor
   .grind
   .intro j e he hx;cases j with
    |zero=>
     simp only[XD,Option.some.injEq]at he;subst he;refine⟨p.2,by simp[YX],(by grind),λc p' n cap hs hv=>⟨.inl (by grind),λhd hq=>?_⟩⟩;rcases hq with⟨q1,_⟩|hq
     .simp at q1
     .exact hd.1 c (by grind) ⟨p',n,cap,hv⟩ (Qd4 (l:=l) hq)
    |succ j=>
     grind
  .have e1:YX (p::l) x=YX l x:=by simp[YX,hp]
   rw[e1];constructor
   .grind
   .intro j e he hx;cases j with
    |zero=>
     simp only[XD,Option.some.injEq]at he;subst he;exact absurd (K.inj _ _ (hk.symm.trans hx)) hp
    |succ j=>
     obtain⟨q,d,i,m⟩:=a2 j e (by grind) hx;refine⟨q,d,i,λc p' n cap hs hv=>?_⟩;obtain⟨a,g⟩:=m c p' n cap hs hv;refine⟨.inr a,λhd hq=>?_⟩;rcases hq with⟨q1,f⟩|hq
     .exact hd.1 c (by grind) f a
     .exact g hd.2 hq
end
section
variable {P:Program} {o:Oper} {env:Env} {H:Qe}
variable {T kt et:Nat} {α β:Type} [DecidableEq α] {ek:α->A} {ev:β->List A} {x y:Operand} {i t k:Nat} {l:List (α×Option (List β))} {key:α} {rows:List β}
end
end Go.Sw
namespace Go.Sw
open Go.MapKept
theorem MO.append{ro:Nat->Prop}{w:World}{t k:Nat}:∀{l m:List (A×Option (List (List A)))} {es fs:List MapEntry},MO ro w t k l es->MO ro w t k m fs->MO ro w t k (l++m) (es++fs)
 |[],m,es,fs,h,q=>by cases(show es=[]from h);exact q
 |p::l,m,es,fs,h,q=>by
  obtain⟨e,l',rfl,h1,h2,h3⟩:=h;exact⟨e,l'++fs,rfl,h1,h2,MO.append h3 q⟩
theorem MO.length{ro:Nat->Prop}{w:World}{t k:Nat}:∀{l:List (A×Option (List (List A)))} {es:List MapEntry},MO ro w t k l es->es.length=l.length
 |[],es,h=>by cases(show es=[]from h);rfl
 |p::l,es,h=>by
  obtain⟨e,l',rfl,h1,h2,h3⟩:=h;simp[MO.length h3]
def SlB(v:Value)(c:Nat):Prop:=∃p n cap,v=.slice (some ⟨c,p,none⟩) n cap
section
variable {P:Program} {kt:TypeId} {α β:Type} [DecidableEq α] {ek:α->A} {ev:β->List A} {ro:Nat->Prop} {w:World} {t k:Nat} (K:Qaa P kt ek)
def QdK{α β:Type}[DecidableEq α](l:List (α×Option (List β)))(x:α)(rows:List β):List (α×Option (List β)):=l.map λp=>bif decide (p.1=x)then(p.1,some rows)else p
include K
theorem QgL{x:α}{rows:List β}:∀{l:List (α×Option (List β))} {es:List MapEntry},MO ro w t k (QbL ek ev l) es->(∀e∈es,e.key≠QP (ek x))->QdK l x rows=l
 |[],es,h,q=>rfl
 |p::l,es,h,q=>by
  obtain⟨e,l',rfl,h1,h2,h3⟩:=h;have hk:e.key=QP (ek p.1):=VR.val (K.scl _) h1;have hp:p.1≠x:=(by grind);have:=QgL (l:=l) h3 (λe he=>q e (by simp[he])) (rows:=rows)
  simp_all[QdK]
theorem MO.put{x:α}{rows:List β}{v:Value}(r:SO ro w t k (rows.map ev) v):∀{l:List (α×Option (List β))} {es:List MapEntry} {j:Nat} {e:MapEntry},MO ro w t k (QbL ek ev l) es->
  (es.map (·.key)).Nodup->es[j]?=some e->e.key=QP (ek x)->
  MO ro w t k (QbL ek ev (QdK l x rows)) (es.modify j λe=>{e with key:=QP (ek x),val:=v})/\
  (∀c,QeF (QbL ek ev (QdK l x rows)) (es.modify j λe=>{e with key:=QP (ek x),val:=v}) c->QeF (QbL ek ev l) es c\/SlB v c)/\
  (Qkf (QbL ek ev l) es->(∀c,QeF (QbL ek ev l) es c->¬SlB v c)->Qkf (QbL ek ev (QdK l x rows)) (es.modify j λe=>{e with key:=QP (ek x),val:=v}))
 |[],es,j,e,h,hn,he,hk=>by cases(show es=[]from h);simp at he
 |p::l,es,j,e,h,hn,he,hk=>by
  obtain⟨e0,l',rfl,h1,h2,h3⟩:=h;have hk0:e0.key=QP (ek p.1):=VR.val (K.scl _) h1;simp only[Vg,List.nodup_cons]at hn;cases j with
  |zero=>
   simp only[XD,Option.some.injEq]at he;subst he;have hp:p.1=x:=K.inj _ _ (hk0.symm.trans hk);simp only[List.modify_zero_cons];have e0':QdK l x rows=l:=QgL K h3 λe he z=>hn.1 (by rw[hk, <- z];exact VD he);have e1:QdK (p::l) x rows=(p.1,some rows)::l:=by
    have:QdK (p::l) x rows=(p.1,some rows)::QdK l x rows:=by simp[QdK,hp]
    rw[this,e0']
   rw[e1];refine⟨⟨_,l',rfl,?_,?_,h3⟩,?_,?_⟩
   .show VR ro [] w (ek p.1) (QP (ek x));rw[<- hp];exact Qds (K.scl _)
   .intro d y;cases y;exact r
   .rintro c (⟨_,q⟩|q)
    .exact .inr q
    .exact .inl (.inr q)
   .rintro⟨i,f⟩ a;exact⟨λc _ q z=>a c (.inr z) q,f⟩
  |succ j=>
   simp only[XE]at he;have hp:p.1≠x:=by
    intro q;refine hn.1 (Xf.2 ⟨e,VE he,?_⟩);rw[hk,hk0,q]
   simp only[List.modify_succ_cons];obtain⟨B,n,s⟩:=MO.put r h3 hn.2 he hk;have e1:QdK (p::l) x rows=p::QdK l x rows:=by simp[QdK,hp]
   rw[e1];refine⟨⟨_,_,rfl,h1,h2,B⟩,?_,?_⟩
   .rintro c (q|q)
    .exact .inl (.inl q)
    .exact(n c q).imp .inr id
   .rintro⟨i,f⟩ a;refine⟨λc g m z=>?_,s f λc u=>a c (.inr u)⟩;rcases n c z with z|z
    .exact i c g m z
    .exact a c (.inl ⟨g,m⟩) z
end
section
variable {P:Program} {o:Oper} {env:Env} {H:Qe}
variable {T kt et:Nat} {α β:Type} [DecidableEq α] {ek:α->A} {ev:β->List A} {x y zz:Operand} {i j t k n:Nat} {l m:List (α×Option (List β))} {key:α} {rows:List β}
end
end Go.Sw
namespace Go.Sw
open Go.MapKept
section
variable {fr ro:Nat->Prop} {σ:Sig} {H:Qe} {w:World}
theorem MO.er{t k:Nat}:∀{es:List (A×Option (List (List A)))} {l:List MapEntry},MO ro w t k es l->ER ro [] w (es.map λe=>(e.1,.any)) l
 |[],_,h=>h
 |x::r,_,⟨e,l',h1,h2,h3,h4⟩=>⟨e,l',h1,h2,trivial,MO.er h4⟩
end
section
variable {P:Program} {o:Oper} {env:Env} {H:Qe} {T kt et i t k:Nat} {x:Operand} {es:List (A×Option (List (List A)))}
end
section
variable {P:Program} {o:Oper} {env:Env} {H:Qe}
variable {T kt et:Nat} {α β:Type} [DecidableEq α] {ek:α->A} {ev:β->List A} {x y zz:Operand} {i j t k n:Nat} {l m:List (α×Option (List β))} {key:α} {rows:List β}
end
end Go.Sw
namespace Go.Sw
open Go.MapKept
section
variable {P:Program} {o:Oper} {env:Env} {H:Qe}
variable {T kt et:Nat} {α β:Type} [DecidableEq α] {ek:α->A} {ev:β->List A} {x y zz:Operand} {i j t k n:Nat} {l m:List (α×Option (List β))} {key:α} {rows:List β}
end
end Go.Sw
namespace Go.Sw
abbrev Kat:=List (Nat×Nat×Nat)
def Qmk:Nat->Nat->List (Nat×Nat)
 |lo,0=>[(lo,lo)]
 |lo,n+1=>(lo,lo)::Qmk (lo+1) n
def rgK(p:Nat×Nat×Nat):List (Nat×Nat):=bif Nat.beq p.1 1 then[(p.2.1,p.2.1+1)]else Qmk p.2.1 (p.2.2-p.2.1)
def plK(cat:Kat):List (List (Nat×Nat)):=cat.map rgK
def rqK(bs:List Nat)(cat:Kat):List (List Nat):=cat.map λp=>bs.take p.2.1
def hsK(cat:Kat):List Bool:=cat.map λp=>Nat.beq p.1 1
def msK(bs:List Nat):List (List Nat):=(List.range (bs.length+1)).map bs.take
theorem Qhg:∀(n lo:Nat),∀p∈Qmk lo n,p.1=p.2
 |0,lo,p,h=>by cases h with|head=>rfl|tail _ h=>cases h
 |n+1,lo,p,h=>by
  rcases X4.1 h with rfl|h
  .rfl
  .exact Qhg n _ p h
section
variable {P:Program} {T:TyX} {h0 N m:Nat} {bs:List Nat} {cat:Kat} {l:List Oper} {ds:List Nat} {env:Env} {H:Qe} {Hs:List Qe} {Q:QR} {K:List Oper->Env->Qe->Prop}
def DobK(P:Program)(N:Nat)(cat:Kat)(l:List Oper)(ds:List Nat)(env:Env)(n:Nat)(Hs:List Qe)(zs:List A)(j:Nat):Prop:=
 ∀p∈(plK cat).getD j [],JD P N l ds zs env n n j (Hs.getD p.1 []) (Hs.getD p.2 [])
def DK(P:Program)(N m:Nat)(bs:List Nat)(cat:Kat)(l:List Oper)(ds:List Nat)(env:Env)(n:Nat)(K:List Oper->Env->Qe->Prop)(Hs:List Qe)(X:Qe)(r:List Oper)(xs:List A):Prop:=
 r=l.drop xs.length->∃ys Zs Y,xs.length+ys.length=m/\Hs.length+Zs.length=bs.length/\((∀Z∈Zs,n<=Z.length)/\(Hs.reverse++X::Zs).getD bs.length []=Y)/\(∀j,xs.length<=j->j<m->DobK P N cat l ds env n (Hs.reverse++X::Zs) (xs++ys) j)/\K (l.drop m) (Qar ds (xs++ys) env) Y
theorem QpL{d:List A}{n:Nat}{Zs:List Qe}(f:cat.length=m)(g:∀j,0<=j->j<m->DobK P N cat l ds env n Zs d j):Qh4 P N l ds d env n (n+0) 0 ((plK cat).map λq=>q.map λp=>(Zs.getD p.1 [],Zs.getD p.2 [])):=by
 refine Qh3 _ 0 λi s a p t=>?_;rw[Xo]at a;cases e:(plK cat)[i]? with
 |none=>grind
 |some q=>
  rw[e]at a;cases a;obtain⟨k,h,rfl⟩:=Xf.1 t;have r:i<m:=by
   grind[plK]
  have:=g i (XT _) r k (by grind)
  grind
theorem QnZ{id:Nat}(m:Nat)(d:List Nat)(cat:Kat)(p:P.follows .mixedOrders=true)(u:Qer l m N (Qbe m 0 l) (hsK cat) (rqK d cat) (msK d) (plK cat)=true)(g:Nat.beq cat.length m=true)(f:Nat.ble h0 H.length=true)
  (h:DK P N m d cat l (Qbe m 0 l) env H.length (λr e H=>WO P h0 N l.toArray r e H Q) [] H l []):TC P h0 N (.region id l.toArray true) env H Q:=by
 obtain⟨q,Zs,Y,t,s,n,k,i⟩:=h rfl;simp only[List.length_nil,Xv,Ve,List.reverse_nil]at t s n k i;have a:=XP g;have j:(msK d).length=d.length+1:=by simp[msK]
 refine YL m 0 _ _ _ _ _ q (H::Zs) Y p u (by grind) (by simp_all) f ?_ (by simp) (by grind) (QpL a k) (by simp[plK,a]) i
 simp_all
variable {n:Nat} {X X1:Qe} {xs:List A} {o:Oper} {r:List Oper} {x:A} {d:Nat}
theorem DK.done(d:Nat.beq xs.length m=true)(f:Nat.beq Hs.length bs.length=true)(h:K r (Qar ds xs env) X):DK P N m bs cat l ds env n K Hs X r xs:=by
 intro a;have e:=XP d;have g:=XP f;subst a;refine⟨[],[],X,by simpa using e,by omega,⟨(λZ hZ=>by cases hZ),?_⟩,λj i k=>by omega,?_⟩
 .grind
 grind
theorem DK.add(t:∀ys Zs,l[xs.length]?=some o->DobK P N cat l ds env n (Hs.reverse++X::Zs) (xs++x::ys) xs.length)(k:DK P N m bs cat l ds env n K Hs X r (xs++[x])):DK P N m bs cat l ds env n K Hs X (o::r) xs:=by
 intro h;obtain⟨s,i⟩:=Qbf h;obtain⟨ys,Zs,Y,f,e,d,g,a⟩:=k (by grind);simp only[X0,XY,List.length_nil,Vf,VH,Ve]at f g a;refine⟨x::ys,Zs,Y,by grind,e,d,λj p q=>?_,a⟩
 grind
theorem Qe5{Zs:List Qe}{zs:List A}{j:Nat}{c:Nat×Nat×Nat}(d:Y5 cat j=some c)(h:∀p∈rgK c,JD P N l ds zs env n n j (Zs.getD p.1 []) (Zs.getD p.2 [])):DobK P N cat l ds env n Zs zs j:=by
 intro p a
 grind[QaA,plK]
theorem Qoo{Zs:List Qe}{c:Nat}(a:Nat.beq c Hs.length=true):(Hs.reverse++X::Zs).getD c []=X:=by
 simp_all
theorem DK.wo{c:Nat}(h:WO P X.length N l.toArray [o] (Yq (Qh o) 0 ds xs env) X (Jb (up (Yq (Qh o) 0 ds xs env) d x) X))(k:DK P N m bs cat l ds env n K Hs X r (xs++[x]))
  (e:Y5 cat xs.length=some (0,c,c):=by exact rfl)(hd:o.dst=some d:=by exact rfl)(hcH:Nat.beq c Hs.length=true:=by exact rfl):DK P N m bs cat l ds env n K Hs X (o::r) xs:=
 .add (λys Zs ho=>Qe5 e λp a=>by
  have:p=(c,c):=by
   change p∈Qmk c (c-c)at a;rw[Nat.sub_self]at a;exact Vy.1 a
  grind[Qoo,Qax,Jh]) k
theorem DK.wa{lo hi:Nat}(h:∀X,WO P X.length N l.toArray [o] (Yq (Qh o) 0 ds xs env) X (Jb (up (Yq (Qh o) 0 ds xs env) d x) X))(k:DK P N m bs cat l ds env n K Hs X r (xs++[x]))
  (f:Y5 cat xs.length=some (0,lo,hi):=by exact rfl)(hd:o.dst=some d:=by exact rfl):DK P N m bs cat l ds env n K Hs X (o::r) xs:=
 .add (λys Zs ho=>Qe5 f λp a=>by
  have e:p.1=p.2:=Qhg _ _ p a
  grind[Qax,Jh]) k
theorem DK.op{c s:Nat}(h:WO P X.length N l.toArray [o] (Yq (Qh o) 0 ds xs env) X (Jb (up (Yq (Qh o) 0 ds xs env) d x) X1))(k:DK P N m bs cat l ds env n K (X::Hs) X1 r (xs++[x]))(E:Nat.ble n X1.length=true:=by exact rfl)
  (hc:Y5 cat xs.length=some (1,c,s):=by exact rfl)(hd:o.dst=some d:=by exact rfl)(hcH:Nat.beq c Hs.length=true:=by exact rfl):DK P N m bs cat l ds env n K Hs X (o::r) xs:=by
 intro w;obtain⟨G,y⟩:=Qbf w;obtain⟨g,Zs,Y,t,i,a,u,e⟩:=k (by grind);simp only[X0,XY,List.length_nil,Vf,VH,Ve,List.reverse_cons]at t i a u e;refine⟨x::g,X1::Zs,Y,by grind,by grind,⟨λZ f=>?_,a.2⟩,λj B F=>?_,e⟩
 .rcases X4.1 f with rfl|f
  .simp_all
  grind
 .rcases Vz xs.length j with q|q
  .grind
  .obtain rfl:j=xs.length:=by omega
   refine Qe5 hc λp z=>?_;have:p=(c,c+1):=Vy.1 z
   grind[Nat.eq_of_beq_eq_true,Qax,Jh]
def Qfm(T:TyX)(N m:Nat)(cat:Kat)(l:List Oper)(ds:List Nat)(env:Env)(n:Nat):Nat->Nat->Nat->List Qe->Qe->List Oper->List A->Option (List Qe×List Oper×List A)
 |0,_,_,Hs,X,r,xs=>some (Hs,r,xs)
 |_+1,_,_,_,_,[],_=>none
 |k+1,i,j,Hs,X,o::r,xs=>match o.dst with
  |none=>none
  |some d=>match Nat.blt d N with
   |false=>none
   |true=>match Y9 ⟨l⟩ o (Yq (Qh o) 0 ds xs env)with
    |none=>none
    |some false=>(match Qdr xs (.tup [])with
      |.mk xs'=>match Y5 cat i with
       |some (0,_,_)=>Qfm T N m cat l ds env n k (i+1) j Hs X r xs'
       |some (1,c,_)=>(match Nat.beq c j,Nat.ble n X.length with
        |true,true=>Qfm T N m cat l ds env n k (i+1) (j+1) (X::Hs) X r xs'
        |_,_=>none)
       |_=>none)
    |some true=>match Y5 cat i with
     |some (0,lo,hi)=>(match QdD T o (Yq (Qh o) 0 ds xs env) []with
      |some x=>(match Qdr xs x with
       |.mk xs'=>Qfm T N m cat l ds env n k (i+1) j Hs X r xs')
      |none=>match Nat.beq lo hi,Nat.beq lo j with
       |true,true=>(match QdD T o (Yq (Qh o) 0 ds xs env) X with
        |none=>none
        |some x=>match Qdr xs x with
         |.mk xs'=>Qfm T N m cat l ds env n k (i+1) j Hs X r xs')
       |_,_=>none)
     |_=>none
theorem QbS(hT:QaY P T):∀(k i j:Nat) {Hs Hs':List Qe} {r r':List Oper} {xs xs':List A},i=xs.length->j=Hs.length->Qfm T N m cat l ds env n k i j Hs X r xs=some (Hs',r',xs')->DK P N m bs cat l ds env n K Hs' X r' xs'->DK P N m bs cat l ds env n K Hs X r xs
 |0,i,j,Hs,Hs',r,r',xs,xs',_,_,h,k=>by cases h;exact k
 |k0+1,i,j,Hs,Hs',[],r',xs,xs',_,_,h,k=>by cases h
 |k0+1,i,j,Hs,Hs',o::r,r',xs,xs',hi,hj,h,k=>by
  subst hi hj;unfold Qfm at h;split at h
  .cases h
  .rename_i d hd;split at h
   .cases h
   .rename_i q2;split at h
    .cases h
    .rename_i hw;simp only[Jq]at h;split at h
     .rename_i lo hi' q0;exact .wa (λX=>WO.skip (QT hw) hd q2 (WO.nil Jb.mk)) (QbS hT k0 _ _ (by simp) rfl h k) q0 hd
     .rename_i c c' q0;split at h
      .rename_i q1 q3;exact .op (WO.skip (QT hw) hd q2 (WO.nil Jb.mk)) (QbS hT k0 _ _ (by simp) (by simp) h k) q3 q0 hd q1
      .cases h
     .cases h
    .rename_i hw;split at h
     .rename_i lo hi' q0;split at h
      .rename_i x hv;simp only[Jq]at h;exact .wa (λX=>YQ (QT hw) hd q2 (Qat hT (Qe9 hv)) (WO.nil Jb.mk)) (QbS hT k0 _ _ (by simp) rfl h k) q0 hd
      .split at h
       .rename_i q1 q3;split at h
        .cases h
        .rename_i x hv;simp only[Jq]at h;obtain rfl:=XP q1;exact .wo (YQ (QT hw) hd q2 (Qat hT hv) (WO.nil Jb.mk)) (QbS hT k0 _ _ (by simp) rfl h k) q0 hd q3
       .cases h
     .cases h
theorem DK.v(h:OpV P o (Yq (Qh o) 0 ds xs env) X x)(k:DK P N m bs cat l ds env n K Hs X r (xs++[x])){c:Nat}(hg:Y9 ⟨l⟩ o (Yq (Qh o) 0 ds xs env)=some true:=by exact rfl)
  (hd:o.dst=some d:=by exact rfl)(hN:Nat.blt d N=true:=by exact rfl)(hc:Y5 cat xs.length=some (0,c,c):=by exact rfl)(hcH:Nat.beq c Hs.length=true:=by exact rfl):DK P N m bs cat l ds env n K Hs X (o::r) xs:=
 .wo (YQ (QT hg) hd hN h (WO.nil Jb.mk)) k hc hd hcH
def allV(T:TyX)(o:Oper)(e:Env)(x:A):Nat->List Qe->Prop
 |0,_=>True
 |k+1,Y::r=>QdD T o e Y=some x/\allV T o e x k r
 |_+1,[]=>False
theorem Qkm:∀(n lo:Nat),∀p∈Qmk lo n,lo<=p.1/\p.1<=lo+n
 |0,lo,p,h=>by cases h with|head=>omega|tail _ h=>cases h
 |n+1,lo,p,h=>by
  rcases X4.1 h with rfl|h
  .omega
  .have:=Qkm n _ p h;omega
def allW(P:Program)(N:Nat)(l:List Oper)(o:Oper)(e:Env)(d:Nat)(x:A):Nat->List Qe->Prop
 |0,_=>True
 |k+1,Y::r=>WO P Y.length N l.toArray [o] e Y (Jb (up e d x) Y)/\allW P N l o e d x k r
 |_+1,[]=>False
theorem Qk0{e:Env}:∀{k:Nat} {r:List Qe},allW P N l o e d x k r->∀j,j<k->WO P (r.getD j []).length N l.toArray [o] e (r.getD j []) (Jb (up e d x) (r.getD j []))
 |0,_,_,j,hj=>(by omega)
 |k+1,[],h,_,_=>h.elim
 |k+1,Y::r,h,0,_=>h.1
 |k+1,Y::r,h,j+1,hj=>by
  have:=Qk0 h.2 j (by omega)
  grind
theorem Qjl{lo hi:Nat}(h:allW P N l o (Yq (Qh o) 0 ds xs env) d x (hi+1-lo) (X::Hs))(k:DK P N m bs cat l ds env n K Hs X r (xs++[x]))
  (j:Y5 cat xs.length=some (0,lo,hi):=by exact rfl)(hd:o.dst=some d:=by exact rfl)(hcH:Nat.beq hi Hs.length=true:=by exact rfl)(hle:Nat.ble lo hi=true:=by exact rfl):DK P N m bs cat l ds env n K Hs X (o::r) xs:=
 .add (λys Zs ho=>Qe5 j λp f=>by
  have e:p.1=p.2:=Qhg _ _ p f;have a:=XQ hle;have s:lo<=p.1/\p.1<=lo+(hi-lo):=Qkm (hi-lo) lo p f;have q:=XP hcH;rw[<- e];have i:=Qk0 h (Hs.length-p.1) (by omega);have g:(Hs.reverse++X::Zs).getD p.1 []=(X::Hs).getD (Hs.length-p.1) []:=by
   grind
  rw[g];exact Qax ho Jh i hd) k
theorem DK.vs(g:QaY P T){lo hi:Nat}(h:allV T o (Yq (Qh o) 0 ds xs env) x (hi+1-lo) (X::Hs))(k:DK P N m bs cat l ds env n K Hs X r (xs++[x]))
  (j:Y5 cat xs.length=some (0,lo,hi))(f:o.dst=some d)(a:Nat.beq hi Hs.length=true)(hg:Y9 ⟨l⟩ o (Yq (Qh o) 0 ds xs env)=some true)(i:Nat.blt d N=true)(e:Nat.ble lo hi=true):DK P N m bs cat l ds env n K Hs X (o::r) xs:=by
 refine Qjl ?_ k j f a e;generalize hi+1-lo=c at h;generalize X::Hs=L at h
 induction c generalizing L with
 |zero=>trivial
 |succ c p=>
  cases L with
  |nil=>exact h.elim
  |cons Y L=>exact⟨YQ (QT hg) f i (Qat g h.1) (WO.nil Jb.mk),p L h.2⟩
end
def room(n:Int):Option Nat:=bif decide (0<n)&&decide (n<=4294967296)then some n.toNat else none
section
variable {P:Program} {o:Oper} {env:Env} {H:Qe}
theorem QnQ{a i:Nat}{x x':Blk}(d:H[i]?=some x)(e:x=x'):Le a env H env (H.set i x'):=by
 grind[List.set_getElem_self,Le.refl]
theorem RL.put{ro:Nat->Prop}{σ:Sig}{w:World}{k:Nat}:∀{a:Nat} {es fs:List (List A)} {l m:List Value},RL ro σ w k es l->a+fs.length<=es.length->Sw.allK k fs->LR ro σ w fs.flatten m->(∀v∈m,QA v)->
  RL ro σ w k (es.take a++fs++es.drop (a+fs.length)) (Sw.splice l (a*k) m)
 |0,es,[],l,m,h,hn,hk,hm,hp=>by
  obtain rfl:m=[]:=hm;simpa[Sw.splice]using h
 |0,[],f::fs,l,m,h,hn,hk,hm,hp=>by simp at hn
 |0,c::es,f::fs,l,m,⟨l1,l2,h1,h2,h3,h4⟩,hn,hk,hm,hp=>by
  subst h1;have hl1:=h3.1.length;have hml:=hm.length;rw[Vi,X0]at hml;have e1:m.take k++m.drop k=m:=Xy _ _;have q1:LR ro σ w f (m.take k):=by have:=hm.take k;rwa [Vi,X5 (by rw[hk.1];omega),VF (by rw[hk.1];omega)]at this
  have i:LR ro σ w fs.flatten (m.drop k):=by have:=hm.drop k;rwa [Vi,X6 (by rw[hk.1];omega),List.drop_of_length_le (by rw[hk.1];omega),Ve]at this
  have d:=RL.put (a:=0) h4 (by grind) hk.2 i (λv e=>hp v (List.mem_of_mem_drop e));simp only[List.take_zero,Ve,Xv,Nat.zero_mul,Sw.splice]at d⊢;refine⟨m.take k,m.drop k++l2.drop (m.drop k).length,?_,hk.1,⟨q1,λv e=>hp v (List.mem_of_mem_take e)⟩,by simp_all⟩;have j:k<=m.length:=by rw[hml,hk.1];omega
  rw[<- Vf,e1];congr 1
  grind[List.drop_length_add_append]
 |a+1,[],fs,l,m,h,hn,hk,hm,hp=>by simp at hn
 |a+1,c::es,fs,l,m,⟨l1,l2,h1,h2,h3,h4⟩,hn,hk,hm,hp=>by
  subst h1;have hl1:=h3.1.length;have d:=RL.put (a:=a) h4 (by simp at hn;omega) hk hm hp;refine⟨l1,Sw.splice l2 (a*k) m,?_,h2,h3,?_⟩
  .have e1:(a+1)*k=l1.length+a*k:=by rw[Xm];omega
   unfold Sw.splice;rw[e1,X9,show l1.length+a*k+m.length=l1.length+(a*k+m.length)from by omega,X8];simp
  .have g:a+1+fs.length=(a+fs.length)+1:=by omega
   simpa[g]using d
def QlU(P:Program)(H:Qe)(x:A)(k:Nat)(es:List (List A)):Prop:=
 ∀fr ro σ w v,Sim fr ro σ H w->VR ro σ w x v->(∃a c,v=.slice a es.length c)/\
  ∀j,j<=es.length->allK k (es.take j)/\ ∃l,(Builtin.firstCells k j v).run P w=.ok l.toArray w/\LR ro [] w (es.take j).flatten l/\ ∀v∈l,QA v
theorem Qfk{fr ro:Nat->Prop}{σ:Sig}{w:World}{k j b off n c:Nat}{es:List (List A)}(h:RR ro [] w b k es off)(f:j<=es.length):
  allK k (es.take j)/\ ∃l,(Builtin.firstCells k j (.slice (some ⟨b,off,none⟩) n c)).run P w=.ok l.toArray w/\LR ro [] w (es.take j).flatten l/\ ∀v∈l,QA v:=by
 obtain⟨d,g,a⟩:=(h.take j).flat;rw[Xx,XA f]at a;obtain⟨l,e,i⟩:=Qa8 (P:=P) (n:=j) (c:=c) d a;refine⟨g,l,?_,i⟩;exact e w rfl
theorem QcN{k n c:Nat}{a:Option Addr}{w:World}:(Builtin.firstCells k 0 (.slice a n c)).run P w=.ok #[] w:=by
 cases a<;>simp[Builtin.firstCells,loadCells,loadCellsFrom,go_sem]
theorem QoM{α:Type}{e:α->List A}{k:Nat}{l:List α}:QlU P H (.rsl k (l.map e)) k (l.map e):=by
 intro fr i σ w v s ⟨a,c,h1,h2,d⟩;subst h1;refine⟨⟨a,c,rfl⟩,λj f=>?_⟩;rcases d with d|⟨b,h,rfl,m,g⟩
 .rw[d]at f⊢;obtain rfl:j=0:=by grind
  exact⟨trivial,[],QcN,rfl,by simp⟩
 .exact Qfk (fr:=fr) (σ:=σ) g f
theorem QlU.osl{i s n k t:Nat}{es a:List (List A)}(x:H[i]?=some (.row t k es))(he:(es.drop s).take n=a)(L:s+n<=es.length):QlU P H (.osl i s n k) k a:=by
 intro fr N σ w v sm h;have r:a.length=n:=by grind
 rcases h with⟨rfl,rfl⟩|⟨b,p,d,G,m,y,rfl,q,⟨F,B⟩,M,J⟩
 .have e:a=[]:=(by grind);subst e;refine⟨⟨none,0,rfl⟩,λj u=>?_⟩;obtain rfl:j=0:=by omega
  exact⟨trivial,[],QcN,rfl,by simp⟩
 .rw[r];refine⟨⟨_,d,rfl⟩,λj u=>?_⟩;obtain⟨l,g,z⟩:=sm.blk i _ _ y x;have f:=((YF (pre:=[]) (by simpa using g) z).drop s).take n;rw[he]at f;by_cases E:0<d
  .obtain rfl:=q E;simpa using Qfk (P:=P) (fr:=fr) (σ:=σ) (n:=n) (c:=d) f (by omega)
  .obtain rfl:j=0:=by omega
   exact⟨trivial,[],QcN,rfl,by simp⟩
theorem QoN{α:Type}{e:α->List A}{b t k:Nat}{l r:List α}{a c:Int}(h:slc l a c=some r)(f:H[b]?=some (.row t k (l.map e)):=by exact rfl):QlU P H (.osl b (0+a.toNat) (c.toNat-a.toNat) k) k (r.map e):=by
 obtain⟨j,g,i,d⟩:=QbQ h;refine QlU.osl f ?_ (by grind);rw[<- d, <- List.map_drop, <- List.map_take,Xv,List.drop_take]
def cpy{α:Type}(l:List α)(a c:Int)(m:List α):Option (List α):=some (l.take a.toNat++m.take (c.toNat-a.toNat)++l.drop (a.toNat+min m.length (c.toNat-a.toNat)))
theorem QeZ{α:Type}{l r l' m:List α}{a c:Int}(h:slc l a c=some r)(d:cpy l a c m=some l'):l.length=l'.length:=by
 obtain⟨f,e,g,_⟩:=QbQ h;rw[<- XX d]
 grind
theorem Qf4{α:Type}{l l' m:List α}(a:cpy l 0 (l.length:Int) m=some l'):l.length=l'.length:=by
 rw[<- XX a]
 grind
theorem Qg9{α:Type}{e:α->List A}{c:Call}{T T' et k b a n t:Nat}{x y:Operand}{ya:A}{l m l':List α}(aa:a+n<=l.length)(af:l.take a++m.take n++l.drop (a+min m.length n)=l')(hT:∀w,(underlying T).run P w=.ok (.slice et) w)(z:∀w,(sizeOf et).run P w=.ok k w)(Y:QlU P H ya k (m.map e))
  (ho:o.op=.call c)(hc:c={callee:=.builtin .copy,args:= #[x,y],argTypes:= #[T,T']})(hx:opA env x=.osl b a n k)(hH:H[b]?=some (.row t k (l.map e)))(W:opA env y=ya):
  OpH P o env H (.int .i64 (min m.length n:Nat)) (H.set b (.row t k (l'.map e))):=by
 intro O J σ N ac w r;have q:=Ql r x;rw[hx]at q;have h2:=Ql r y;rw[W]at h2;obtain⟨⟨ay,cy,M⟩,q2⟩:=Y O J σ w _ r.sim h2;rw[XZ]at M q2;obtain⟨q3,G,F,L,q6⟩:=q2 (min m.length n) (Nat.min_le_left _ _);have g:((m.map e).take (min m.length n)).length=min m.length n:=by simp
 have Q:l'.map e=(l.map e).take a++(m.map e).take (min m.length n)++(l.map e).drop (a+((m.map e).take (min m.length n)).length):=by
  grind[List.map_take,List.map_drop]
 have d:(Builtin.copy_ #[T,T'] o.type #[ac.eval x,ac.eval y]).run P w=.ok (.int .i64 (min m.length n:Nat)) w->min m.length n=0->
   ∃v w' ro' τ,(execOp ac.eval o).run P w=.ok (.value v) w'/\VR ro' (σ++τ) w' (.int .i64 (min m.length n:Nat)) v/\Sim O ro' (σ++τ) (H.set b (.row t k (l'.map e))) w'/\Qi O J w ro' w':=by
  intro h hz;have Y:H.set b (.row t k (l'.map e))=H:=by
   have:l'.map e=l.map e:=by simp_all
   grind[List.set_getElem_self]
  refine⟨_,w,J,[],?_,rfl,by simpa[Y]using r.sim,Qi.refl _ _ _⟩;subst hc;generalize ac.eval=ρ at*
  simp_all[execOp,resolve,invoke,builtin]
 have B:∀j:Nat,goInt j=.int .i64 j:=λ_=>rfl;rcases q with⟨E,q⟩|⟨bb,p,ab,t',mm,q,h3,h4,⟨h5,ae⟩,h6,h7⟩
 .refine d ?_ (by omega);rw[M]at F⊢;rw[q];have:Nat.min m.length 0=min m.length n:=by rw[E]
  simp only[Builtin.copy_,XF,XD,XE,Vj,hT,z,Result.andThen,Builtin.lenOf,Vk,this,F,B]
 .have f:∀R:Result Unit,(storeCells ⟨bb,p,none⟩ G).run P w=R->(Builtin.copy_ #[T,T'] o.type #[ac.eval x,ac.eval y]).run P w=R.andThen λ_ w=>.ok (.int .i64 (min m.length n:Nat)) w:=by
   intro R hR;rw[M]at F⊢;rw[h3];have:Nat.min m.length n=min m.length n:=rfl;simp only[Builtin.copy_,XF,XD,XE,Vj,hT,z,Result.andThen,Builtin.lenOf,Vk,this,F,B,hR]
  by_cases E:min m.length n=0
  .have s:G=[]:=by
    have:=L.length;rw[E]at this;exact VG.1 (by simpa using this)
   refine d ?_ E;have:=f (.ok () w) (by rw[s];rfl);rw[this];rfl
  .obtain rfl:=h4 (by omega);obtain⟨l0,g1,g2⟩:=r.sim.blk b _ _ q hH;have V:=g2.length;have s:=L.length;rw[Yt q3,g]at s;have ad:a*k+(min m.length n)*k<=l0.length:=by
    rw[<- Xz];refine XU (XB k ?_) V;rw[XZ];omega
   have u:=Yh (P:=P) (vs:=G) (a*k) 0 g1 (by omega) q6;rw[Xw]at u;have h:=f _ u;have i:=r.sim.set (x':=.row t k (l'.map e)) (obj:=.cells (splice l0 (a*k) G).toArray t (0,0)) q hH rfl
    (λy W=>JA g1 (Yf (by omega)) y W)
    (λex X=>⟨_,X,by
     rw[Q];exact(RL.put g2 (by rw[g,XZ];omega) q3 L q6).mono ex.nil⟩)
   refine⟨_,_,J,[],?_,rfl,by simpa using i.1,i.2⟩;subst hc;generalize ac.eval=ρ at*;simp only[execOp,ho,resolve,Vj,Vk,Result.andThen,invoke,builtin,XH,Vg,Vh,h]
theorem Ql4{α:Type}{e:α->List A}{c:Call}{T T' et k b t:Nat}{x y:Operand}{d:A}{l m l':List α}(h:cpy l 0 (l.length:Int) m=some l')(f:∀w,(underlying T).run P w=.ok (.slice et) w)(a:∀w,(sizeOf et).run P w=.ok k w)(i:QlU P H d k (m.map e))
  (g:o.op=.call c:=by exact rfl)(hc:c={callee:=.builtin .copy,args:= #[x,y],argTypes:= #[T,T']}:=by exact rfl)(hx:opA env x=.osl b 0 l.length k:=by exact rfl)(hH:H[b]?=some (.row t k (l.map e)):=by exact rfl)(hy:opA env y=d:=by exact rfl):
  OpH P o env H (.int .i64 (min m.length l.length:Nat)) (H.set b (.row t k (l'.map e))):=by
 refine Qg9 (by omega) ?_ f a i g hc hx hH hy;rw[<- XX h];rfl
theorem Ql5{α:Type}{e:α->List A}{c:Call}{T T' et k b t:Nat}{x y:Operand}{f:A}{l q m l':List α}{i j:Int}(hi:slc l i j=some q)(h:cpy l i j m=some l')(g:∀w,(underlying T).run P w=.ok (.slice et) w)(d:∀w,(sizeOf et).run P w=.ok k w)(n:QlU P H f k (m.map e))
  (p:o.op=.call c:=by exact rfl)(hc:c={callee:=.builtin .copy,args:= #[x,y],argTypes:= #[T,T']}:=by exact rfl)(hx:opA env x=.osl b (0+i.toNat) (j.toNat-i.toNat) k:=by exact rfl)(hH:H[b]?=some (.row t k (l.map e)):=by exact rfl)(hy:opA env y=f:=by exact rfl):
  OpH P o env H (.int .i64 (min m.length (j.toNat-i.toNat):Nat)) (H.set b (.row t k (l'.map e))):=by
 obtain⟨u,s,r,z⟩:=QbQ hi;refine Qg9 (a:=i.toNat) (by omega) (XX h) g d n p hc ?_ hH hy
 grind
end
open Go.MapKept
section
variable {fr ro ro':Nat->Prop} {σ:Sig} {H:Qe} {w:World}
end
end Go.Sw
namespace Go.Sw
def QkD{α:Type}(l:List α)(o:Option (List α)):Option (List α):=o.bind λr=>bif Nat.beq l.length r.length then some r else none
theorem QiA{α:Type}{l r:List α}{o:Option (List α)}(h:QkD l o=some r):o=some r/\l.length=r.length:=by
 cases o with
 |none=>cases h
 |some x=>
  have a:(bif Nat.beq l.length x.length then some x else none)=some r:=h;cases q:Nat.beq l.length x.length with
  |false=>grind
  |true=>
   simp_all
theorem QmM{α:Type}{l r:List α}{o:Option (List α)}(h:QkD l o=some r):o=some r:=(QiA h).1
theorem QgP{α:Type}{l r:List α}{o:Option (List α)}(h:QkD l o=some r):l.length=r.length:=(QiA h).2
section
variable {P:Program} {o:Oper} {env:Env} {H:Qe} {α:Type} {e:α->List A}
end
open Go.MapKept
section
variable {P:Program} {o:Oper} {env:Env} {H:Qe}
variable {T kt et:Nat} {α β:Type} [DecidableEq α] {ek:α->A} {ev:β->A} {x y:Operand} {i:Nat} {l:List (α×β)} {k:α} {z0:β} {z:Value}
end
section
variable {fr ro:Nat->Prop} {σ:Sig} {H:Qe} {w:World}
theorem Sim.shutAny(s:Sim fr ro σ H w){i b:Nat}{p:Blk}(hσ:σ[i]?=some (some b))(k:H[i]?=some p)(l:p.live=true):
  Sim fr (λc=>ro c\/c=b) σ (H.set i .dead) w:=by
 have t:b<w.heap.size/\ ¬ro b/\ ¬fr b:=s.own i b _ hσ k l;have ext:Ext ro σ w (λc=>ro c\/c=b) σ w:=⟨λ_ q=>.inl q,λ_ _=>rfl,λ_ _ q=>q,λ_ _ q=>q⟩;have a:∀(j:Nat) (v:Blk),(H.set i .dead)[j]?=some v->v≠ .dead->j≠i/\H[j]?=some v:=by
  grind
 refine⟨by rw[X2];exact s.len,s.roOk.to (λ_ q=>.inl q) (λ_ _=>rfl) ?_,s.frLt,?_,?_,?_,?_,s.hidTo (· = ·) Yg (XS _) (λj d x c F J M G=>G.elim id λq=>((s.hid j d x c F J M).ne i b _ hσ k l q).elim) (λ_ _ _ _ _ _ _ q=>q) λj d y O P Q=>.inl ⟨j,y,rfl,O,(a j y P (Qe6 Q)).2,id,λ_ q=>q⟩⟩
 .rintro c (q|rfl)
  .exact s.roLt c q
  omega
 .rintro c (q|rfl)
  .exact s.roFr c q
  grind
 .intro j c v g f h;obtain⟨e,f⟩:=a j v f (Qaq h);obtain⟨N,L,B⟩:=s.own j c v g f h;refine⟨N,?_,B⟩;rintro(q|rfl)
  .exact L q
  .exact e (s.inj j i c v _ g hσ f k h l)
 .intro j n c v r g f h E m z;exact s.inj j n c v r g f (a j v h (Qaq m)).2 (a n r E (Qaq z)).2 m z
 .intro j y v g f;by_cases u:v≠ .dead
  .exact(s.blk j y v g (a j v f u).2).keep ext (λ_ _ _=>rfl) (λ_ _ _ _=>rfl)
  .obtain rfl:v=.dead:=Classical.not_not.1 u;trivial
def QoV(H:Qe):List Nat->Qe
 |[]=>H
 |i::l=>QoV (H.set i .dead) l
theorem Sim.shutL:∀{l:List Nat} {ro:Nat->Prop} {H:Qe} (s:Sim fr ro σ H w),l.Nodup->(∀i∈l,∃x,H[i]?=some x/\x.live=true)->
  ∃ro',Sim fr ro' σ (QoV H l) w/\(∀c,ro c->ro' c)/\ ∀i∈l,∀b,σ[i]?=some (some b)->ro' b
 |[],ro,H,s,_,_=>⟨ro,s,λ_ q=>q,λ_ h=>by cases h⟩
 |i::l,ro,H,s,hn,hl=>by
  rw[List.nodup_cons]at hn;obtain⟨x,hx,hxl⟩:=hl i (by simp);have rest:∀i'∈l,∃x,(H.set i .dead)[i']?=some x/\x.live=true:=by
   grind
  have j:∃q,σ[i]?=some q:=by
   have:i<σ.length:=by rw[s.len];grind
   simp_all
  obtain⟨q,k⟩:=j;cases q with
  |some b=>
   obtain⟨ro',d,f,m⟩:=Sim.shutL (s.shutAny k hx hxl) hn.2 rest;refine⟨ro',d,(by grind),λi' e g a=>?_⟩
   grind
  |none=>
   obtain⟨ro',d,f,m⟩:=Sim.shutL (s.kill i) hn.2 rest;refine⟨ro',d,f,λi' e g a=>?_⟩
   grind
end
end Go.Sw
namespace Go.Sw
structure Fil (α β:Type) where
 number:Int
 r0:List α
 r1:List α
 r2:List α
 reports:List β
 appeal:Bool
 deriving DecidableEq
structure FK (α β:Type) where
 T:Nat
 tF:Nat
 kF:Nat
 tR:Nat
 kR:Nat
 eF:α->List A
 eR:β->List A
section
variable {α β:Type} (K:FK α β)
def Qm4(b:Nat)(x:Fil α β):List A:=[.int .i64 x.number,.osl (b+1) 0 x.r0.length K.kF,.osl (b+2) 0 x.r1.length K.kF,.osl (b+3) 0 x.r2.length K.kF,.osl (b+4) 0 x.reports.length K.kR,.bool x.appeal]
def QkJ(b:Nat)(x:Fil α β):List Blk:=[.cells K.T (Qm4 K b x),.row K.tF K.kF (x.r0.map K.eF),.row K.tF K.kF (x.r1.map K.eF),.row K.tF K.kF (x.r2.map K.eF),.row K.tR K.kR (x.reports.map K.eR)]
def fall:Nat->List (Fil α β)->List Blk
 |_,[]=>[]
 |b,x::l=>QkJ K b x++fall (b+5) l
def frp(x:Fil α β):List A:=[.int .i64 x.number,.rsl K.kF (x.r0.map K.eF),.rsl K.kF (x.r1.map K.eF),.rsl K.kF (x.r2.map K.eF),.rsl K.kR (x.reports.map K.eR),.bool x.appeal]
def fent:Nat->List (Fil α β)->List (Int×Nat)
 |_,[]=>[]
 |b,x::l=>(x.number,b)::fent (b+5) l
def ptr0(j:Nat):A:=.ptr j 0
def rpE(x:Fil α β):A:=.rp (frp K x)
def fnum(fs:List (Fil α β)):List (Int×Fil α β):=fs.map λx=>(x.number,x)
theorem QgU(b:Nat)(x:Fil α β)(l:List (Fil α β)):fall K b (x::l)=QkJ K b x++fall K (b+5) l:=rfl
theorem Qlz(b:Nat)(x:Fil α β):(QkJ K b x).length=5:=rfl
end
section
variable {fr ro ro':Nat->Prop} {σ:Sig} {w:World}
theorem QeM(sub:∀c,ro c->ro' c){i t k:Nat}{es:List (List A)}{v:Value}(g:∀b,σ[i]?=some (some b)->BR ro σ w (.row t k es) (some b)/\ro' b)(h:VR ro σ w (.osl i 0 es.length k) v):VR ro' [] w (.rsl k es) v:=by
 rcases h with⟨E,h⟩|⟨b,p,a,y,m,j,h,f,⟨d,r⟩,B,z⟩
 .have:es=[]:=(by grind);subst this;exact⟨none,0,h,XS _,.inl rfl⟩
 .refine⟨_,a,h,d,?_⟩;by_cases s:es=[]
  .exact .inl s
  .right;have u:0<a:=Vc (by grind) d;obtain rfl:=f u;obtain⟨⟨l,e,n⟩,x⟩:=g b j;refine⟨b,0,by simp,x,?_⟩;have:=YF (pre:=[]) (by simpa using e) n;exact this.keep ⟨sub,λ_ _=>rfl,λ_ _ q=>q,λ_ _ q=>q⟩ rfl
theorem Qn2{ro:Nat->Prop}{w:World}{b t:Nat}:∀{cs:List A} {pre l:List Value},w.heap[b]?=some (.cells (pre++l).toArray t (0,0))->LR ro [] w cs l->(∀v∈l,QA v)->CR ro [] w b cs pre.length
 |[],pre,l,_,_,_=>trivial
 |a::cs,pre,l,hb,hl,hp=>by
  obtain⟨v,l',rfl,h1,h2⟩:=hl;refine⟨⟨v,?_,hp v (by simp),h1⟩,?_⟩
  .unfold World.cell?
   grind
  .have:=Qn2 (pre:=pre++[v]) (l:=l') (by simpa using hb) h2 (by grind)
   grind
variable {α β:Type} (K:FK α β)
theorem QoK(sub:∀c,ro c->ro' c){b:Nat}{x:Fil α β}{v:Value}(f:∀(d c:Nat) (y:Blk),(QkJ K b x)[d]?=some y->σ[b+d]?=some (some c)->BR ro σ w y (some c)/\ro' c)(h:VR ro σ w (.ptr b 0) v):VR ro' [] w (.rp (frp K x)) v:=by
 obtain⟨c,k,n⟩:=h;obtain⟨⟨l,u,a,z⟩,p⟩:=f 0 c _ rfl k;refine⟨c,0,n,p,?_⟩;refine Qn2 (pre:=[]) (by simpa using u) ?_ z;unfold Qm4 at a;obtain⟨v0,N,rfl,g,a⟩:=a;obtain⟨s,O,rfl,E,a⟩:=a;obtain⟨m,L,rfl,H,a⟩:=a;obtain⟨j,J,rfl,M,a⟩:=a;obtain⟨q,F,rfl,G,a⟩:=a;obtain⟨r,B,rfl,i,a⟩:=a;refine⟨v0,_,rfl,g,s,_,rfl,QeM sub (t:=K.tF) (λc e=>f 1 c _ rfl e) (by grind),m,_,rfl,QeM sub (t:=K.tF) (λc e=>f 2 c _ rfl e) (by grind),j,_,rfl,QeM sub (t:=K.tF) (λc e=>f 3 c _ rfl e) (by grind),
  q,_,rfl,QeM sub (t:=K.tR) (λc e=>f 4 c _ rfl e) (by grind),r,_,rfl,i,a⟩
theorem QnW(sub:∀c,ro c->ro' c){ek:Int->A}(hek:∀(k:Int) (v:Value),VR ro σ w (ek k) v->VR ro' [] w (ek k) v):∀{b:Nat} {fs:List (Fil α β)} {es:List MapEntry},(∀(d c:Nat) (y:Blk),(fall K b fs)[d]?=some y->σ[b+d]?=some (some c)->BR ro σ w y (some c)/\ro' c)->
  ER ro σ w (Q7 ek ptr0 (fent b fs)) es->ER ro' [] w (Q7 ek (rpE K) (fnum fs)) es
 |b,[],es,_,h=>h
 |b,x::l,es,hb,h=>by
  obtain⟨e,l',rfl,h1,h2,h3⟩:=h;refine⟨e,l',rfl,hek _ _ h1,?_,?_⟩
  .refine QoK K sub (λd c y hy hc=>hb d c y ?_ hc) h2
   grind[QgU]
  .refine QnW sub hek (b:=b+5) (fs:=l) (λd c y hy hc=>hb (d+5) c y ?_ (by grind)) h3
   grind[QgU,Qlz]
end
section
variable {fr ro:Nat->Prop} {σ:Sig} {w:World} {α β:Type} (K:FK α β)
end
open Go.Sort Go.Proofs Go.Shelf
end Go.Sw
namespace Go.Sw
structure Pl where
 b:Nat
 i0:Nat
 i1:Nat
 i2:Nat
 i3:Nat
def Pl.ix(p:Pl):List Nat:=[p.b,p.i0,p.i1,p.i2,p.i3]
section
variable {α β:Type} (K:FK α β)
def Qj5(p:Pl)(x:Fil α β):List A:=[.int .i64 x.number,.osl p.i0 0 x.r0.length K.kF,.osl p.i1 0 x.r1.length K.kF,.osl p.i2 0 x.r2.length K.kF,.osl p.i3 0 x.reports.length K.kR,.bool x.appeal]
structure Qc0 (H:Qe) (x:Fil α β) (p:Pl):Prop where
 c:H[p.b]?=some (.cells K.T (Qj5 K p x))
 r0:H[p.i0]?=some (.row K.tF K.kF (x.r0.map K.eF))
 r1:H[p.i1]?=some (.row K.tF K.kF (x.r1.map K.eF))
 r2:H[p.i2]?=some (.row K.tF K.kF (x.r2.map K.eF))
 r3:H[p.i3]?=some (.row K.tR K.kR (x.reports.map K.eR))
abbrev Qki(α β:Type):=List (Fil α β×Pl)
structure QbK (lo:Nat) (H:Qe) (bk:Qki α β):Prop where
 laid:∀e∈bk,Qc0 K H e.1 e.2
 own:∀e∈bk,e.2.ix.Nodup
 ne:bk.Pairwise λe f=>∀i∈e.2.ix,i∉f.2.ix
 lo:∀e∈bk,∀i∈e.2.ix,lo<=i
 num:(bk.map (·.1.number)).Nodup
variable {K} {lo:Nat} {H H':Qe} {bk l r:Qki α β} {e:Fil α β×Pl} {x':Fil α β} {p':Pl}
theorem QbK.nil:QbK K lo H ([]:Qki α β):=⟨(λ_ h=>by cases h),(λ_ h=>by cases h),List.Pairwise.nil,(λ_ h=>by cases h),List.nodup_nil⟩
theorem Qc0.lt(h:Qc0 K H e.1 e.2):∀i∈e.2.ix,i<H.length:=by
 intro i a;have g:∀{j:Nat} {y:Blk},H[j]?=some y->j<H.length:=(by grind);simp only[Pl.ix,X4,List.not_mem_nil,or_false]at a;rcases a with rfl|rfl|rfl|rfl|rfl
 .exact g h.c
 .exact g h.r0
 .exact g h.r1
 .exact g h.r2
 .exact g h.r3
theorem Qc0.keep(h:Qc0 K H e.1 e.2)(k:∀i∈e.2.ix,H'[i]?=H[i]?):Qc0 K H' e.1 e.2:=by
 refine⟨?_,?_,?_,?_,?_⟩
 .rw[k _ (by simp[Pl.ix])];exact h.c
 .rw[k _ (by simp[Pl.ix])];exact h.r0
 .rw[k _ (by simp[Pl.ix])];exact h.r1
 .rw[k _ (by simp[Pl.ix])];exact h.r2
 .rw[k _ (by simp[Pl.ix])];exact h.r3
theorem QbK.keep(h:QbK K lo H bk)(k:∀j,lo<=j->j<H.length->H'[j]?=H[j]?):QbK K lo H' bk:=
 ⟨λe he=>(h.laid e he).keep λi hi=>k i (h.lo e he i hi) ((h.laid e he).lt i hi),h.own,h.ne,h.lo,h.num⟩
theorem QbK.upd(h:QbK K lo H (l++e::r))(u:Qc0 K H' x' p')(E:x'.number=e.1.number)(x:∀j,lo<=j->j<H.length->j∉e.2.ix->H'[j]?=H[j]?)
  (hi:∀i∈p'.ix,i∈e.2.ix\/H.length<=i)(t:p'.ix.Nodup)(B:lo<=H.length):QbK K lo H' (l++(x',p')::r):=by
 obtain⟨w,y,F⟩:=List.pairwise_append.1 h.ne;obtain⟨G,z⟩:=Xc.1 y;have mem:∀f∈l++(x',p')::r,f=(x',p')\/(f∈l++e::r/\ ∀i∈f.2.ix,i∉e.2.ix):=by
  intro f a
  grind
 refine⟨?_,?_,?_,?_,?_⟩
 .intro f a;rcases mem f a with rfl|⟨d,p⟩
  .exact u
  .exact(h.laid f d).keep λi hi=>x i (h.lo f d i hi) ((h.laid f d).lt i hi) (p i hi)
 .intro f a;rcases mem f a with rfl|⟨d,p⟩
  .exact t
  .exact h.own f d
 .refine List.pairwise_append.2 ⟨w,Xc.2 ⟨?_,z⟩,?_⟩
  .intro f a i m k;rcases hi i m with q|q
   .grind
   .have:=(h.laid f (by simp[a])).lt i k;omega
  .intro f a g s i k n;rcases X4.1 s with rfl|s
   .rcases hi i n with q|q
    .grind
    .have:=(h.laid f (by simp[a])).lt i k;omega
   grind
 .intro f a;rcases mem f a with rfl|⟨d,p⟩
  .intro i m;rcases hi i m with q|q
   .exact h.lo e (by simp) i q
   .omega
  .exact h.lo f d
 .have:=h.num
  grind
theorem QbK.add(h:QbK K lo H bk)(m:Qc0 K H' x' p')(t:∀e∈bk,e.1.number≠x'.number)(n:∀j,lo<=j->j<H.length->H'[j]?=H[j]?)
  (hi:∀i∈p'.ix,H.length<=i)(k:p'.ix.Nodup)(s:lo<=H.length):QbK K lo H' (bk++[(x',p')]):=by
 have r:=h.keep n;have mem:∀f∈bk++[(x',p')],f∈bk\/f=(x',p'):=by
  simp
 refine⟨?_,?_,?_,?_,?_⟩
 .intro f d;rcases mem f d with q|rfl
  .exact r.laid f q
  .exact m
 .intro f d;rcases mem f d with q|rfl
  .exact h.own f q
  .exact k
 .refine List.pairwise_append.2 ⟨h.ne,by simp,λf d g l i a p=>?_⟩;obtain rfl:=Vy.1 l;have:=(h.laid f d).lt i a
  grind
 .intro f d i a;rcases mem f d with q|rfl
  .exact h.lo f q i a
  grind
 .rw[Xg];refine List.nodup_append.2 ⟨h.num,by simp,?_⟩
  grind
end
section
variable {fr ro ro':Nat->Prop} {σ:Sig} {w:World} {α β:Type} (K:FK α β)
def Qns(bk:Qki α β):List Nat:=bk.flatMap λe=>e.2.ix
theorem QbK.all{lo:Nat}{H:Qe}:∀{f:Qki α β},QbK K lo H f->(Qns f).Nodup/\ ∀i∈Qns f,lo<=i/\ ∃y,H[i]?=some y/\y.live=true:=by
 intro f h;refine⟨?_,?_⟩
 .have k:=h.own;have j:=h.ne
  grind[Qns]
 .intro i d;obtain⟨e,g,d⟩:=List.mem_flatMap.1 d;refine⟨h.lo e g i d,?_⟩;have a:=h.laid e g;simp only[Pl.ix,X4,List.not_mem_nil,or_false]at d;rcases d with rfl|rfl|rfl|rfl|rfl
  .exact⟨_,a.c,rfl⟩
  .exact⟨_,a.r0,rfl⟩
  .exact⟨_,a.r1,rfl⟩
  .exact⟨_,a.r2,rfl⟩
  .exact⟨_,a.r3,rfl⟩
end
section
variable {α β:Type} (K:FK α β) {env:Env} {H:Qe}
end
section
variable {P:Program} {h0 N:Nat} {all:Array Oper} {o:Oper} {l:List Oper} {env:Env} {H:Qe} {Q:QR}
end
section
variable {h0 n:Nat} {env env':Env} {H H':Qe}
end
section
variable {P:Program} {o:Oper} {env:Env} {H:Qe} {α:Type}
end
section
variable {α β:Type}
def newF(k:Int):Fil α β:=⟨k,[],[],[],[],false⟩
variable (K:FK α β) {lo:Nat} {H H':Qe} {bk:Qki α β}
def Qln(n:Nat):Pl:=⟨n,n+1,n+2,n+3,n+4⟩
def QeO(n:Nat)(k:Int):Qe:=[.cells K.T (Qj5 K (Qln n) (newF k)),.row K.tF K.kF [],.row K.tF K.kF [],.row K.tF K.kF [],.row K.tR K.kR []]
theorem Qc0.new{k:Int}:Qc0 K (H++QeO K H.length k) (newF k) (Qln H.length):=by
 have g:∀(j:Nat) (y:Blk),(QeO K H.length k)[j]?=some y->(H++QeO K H.length k)[H.length+j]?=some y:=by
  grind
 exact⟨g 0 _ rfl,g 1 _ rfl,g 2 _ rfl,g 3 _ rfl,g 4 _ rfl⟩
theorem Qku(n:Nat):(∀i∈(Qln n).ix,n<=i)/\(Qln n).ix.Nodup:=by
 simp_all[Pl.ix,Qln]
variable {K}
theorem QbK.new{k:Int}(h:QbK K lo H bk)(d:∀e∈bk,e.1.number≠k)(a:lo<=H.length):QbK K lo (H++QeO K H.length k) (bk++[(newF k,Qln H.length)]):=by
 refine h.add (Qc0.new K) d (by grind) (Qku _).1 (Qku _).2 a
theorem QbK.row{l r:Qki α β}{e:Fil α β×Pl}{x':Fil α β}{d:Pl}{i:Nat}{y:Blk}(h:QbK K lo H (l++e::r))(u:lo<=H.length)(m:x'.number=e.1.number)(hi:i∈e.2.ix)(q:i≠e.2.b)(g:d.b=e.2.b)
  (G:H'=(H.set i .dead++[y]).set e.2.b (.cells K.T (Qj5 K d x')))
  (w:d.ix=e.2.ix.map λj=>bif Nat.beq j i then H.length else j)
  (t:H'[d.i0]?=some (.row K.tF K.kF (x'.r0.map K.eF)))(x:H'[d.i1]?=some (.row K.tF K.kF (x'.r1.map K.eF)))(k:H'[d.i2]?=some (.row K.tF K.kF (x'.r2.map K.eF)))(s:H'[d.i3]?=some (.row K.tR K.kR (x'.reports.map K.eR))):
  QbK K lo H' (l++(x',d)::r):=by
 have z:=h.laid e (by simp);have f:=z.lt;have E:e.2.b<H.length:=f _ (by simp[Pl.ix]);refine h.upd ⟨?_,t,x,k,s⟩ m ?_ ?_ ?_ u
 .grind
 .grind[List.getElem?_set_ne,Pl.ix]
 .grind
 .rw[w];have B:=h.own e (by simp);refine List.pairwise_map.2 (List.Pairwise.imp_of_mem ?_ B);intro a b n g p;have L:=f a n;have M:=f b g;cases F:Nat.beq a i with
  |true=>
   cases J:Nat.beq b i with
   |true=>simp_all
   |false=>grind
  |false=>
   grind
end
section
variable {fr ro:Nat->Prop} {σ:Sig} {H:Qe} {w:World}
end
section
variable {P:Program} {o:Oper} {env:Env} {H:Qe}
theorem Le.frow{F s i n k t:Nat}{es:List (List A)}(G:lk env s=.osl i 0 n k)(u:H[i]?=some (.frow t k es))(x:es.length=n):Le F env H (up env s (.rsl k es)) H:=by
 intro R h σ N a w r;refine⟨h,σ,⟨r.sim,?_,r.size,r.defers⟩,λ_ q=>q,rfl⟩;intro d;simp only[lk];by_cases q:d=s
 .subst q;rw[VC];have:=r.env d;rw[G]at this;show VR h σ w (.rsl k es) _;rcases this with⟨g,f⟩|⟨b,p,e,T,m,g,f,y,⟨Q,M⟩,P,V⟩
  .have:es=[]:=(by grind);subst this;exact⟨none,0,by rw[f];rfl,XS _,.inl rfl⟩
  .obtain⟨j,l,J,L,W⟩:=r.sim.blk i _ _ g u;refine⟨_,e,by rw[f,x],by omega,?_⟩;by_cases B:es=[]
   .exact .inl B
   .right;have E:0<e:=(by grind);have O:=y E;refine⟨b,0,by rw[O];simp,j,?_⟩;exact YF (pre:=[]) (by simpa using J) L
 .have:Nat.beq d s=false:=by
   cases z:Nat.beq d s with
   |true=>simp_all
   |false=>rfl
  rw[this];exact r.env d
end
open Go.MapKept
section
variable {P:Program} {kt et:Nat} {α β:Type} [DecidableEq α] {ek:α->A} {ev:β->A} {ro:Nat->Prop} {σ:Sig} {w:World} (K:Qaa P kt ek)
include K
variable {o:Oper} {env:Env} {H:Qe} {T T' i:Nat} {x y:Operand} {l m:List (α×β)} {k:α}
end
end Go.Sw
namespace Go.Sw
section
variable {P:Program} {h0 N:Nat} {all:Array Oper} {o1 o2:Oper} {l:List Oper} {env:Env} {H:Qe} {Q:QR}
end
section
variable {P:Program} {o:Oper} {env:Env} {H:Qe}
end
section
variable {P:Program} {o:Oper} {env:Env} {H:Qe} {α:Type}
def QcS(l:List α)(lo hi i:Int):Option α:=bif decide (0<=lo)&&(decide (0<=i)&&decide (lo+i<hi))then idx l (lo+i)else none
theorem QkF{l:List α}{lo hi i:Int}{v:α}(h:QcS l lo hi i=some v):0<=lo/\0<=i/\lo+i<hi/\idx l (lo+i)=some v:=by
 unfold QcS at h
 grind
theorem Qaz{l:List α}{lo hi i:Int}{v:α}(h:QcS l lo hi i=some v):idx l (lo+i)=some v:=(QkF h).2.2.2
theorem JJ{t a k b:Nat}{x y:Operand}{l:List α}{g:IntKind}{lo hi i:Int}{v:α}(h:QcS l lo hi i=some v)(d:∀w,(underlying t).run P w=.ok (.slice a) w)(j:∀w,(sizeOf a).run P w=.ok k w)
  (n:o.op=.indexAddr t x y:=by exact rfl)(hx:opA env x=.osl b (0+lo.toNat) (hi.toNat-lo.toNat) k:=by exact rfl)(hy:opA env y=.int g i:=by exact rfl):OpV P o env H (.ptr b ((lo+i).toNat*k)):=by
 obtain⟨q,m,p,_⟩:=QkF h;have f:=Qh1 (H:=H) n d j hx hy m (by omega);have e:(0+lo.toNat)*k+i.toNat*k=(lo+i).toNat*k:=by
  rw[<- Xz]
  grind
 rwa [e]at f
end
theorem Qh5{h0:Nat}{env:Env}{H H':Qe}(e:H=H'):Le h0 env H env H':=e▸Le.refl h0 env H
section
variable {P:Program} {o:Oper} {env:Env} {H:Qe}
end
section
variable {env:Env} {H:Qe}
theorem Qhb{h0 i j m o' n k T:Nat}{x:Blk}{cs:List A}(hi:H[i]?=some x)(u:H[j]?=some (.cells T cs))(s:cs[m]?=some (.osl i o' n k))(d:Nat.beq i j=false)(V:Nat.ble h0 H.length=true):
  Le h0 env H env ((H.set i .dead).set j (.cells T (cs.set m (.osl H.length o' n k)))++[x]):=by
 intro Y F σ N a w r;have hiσ:i<σ.length:=by rw[r.sim.len];exact(XK.1 hi).1
 have hσ:σ[i]?=some σ[i]:=XJ hiσ;have ext:Ext F σ w F (σ++[σ[i]]) w:=⟨λ_ q=>q,λ_ _=>rfl,λ_ _ q=>q,λ_ _ h=>Qac h⟩;have G:=r.sim.moved hi hσ;have g:j<H.length:=(XK.1 u).1;have z:i≠j:=λq=>by rw[q,VC]at d;cases d
 have f:(H.set i .dead++[x])[j]?=some (.cells T cs):=by
  rw[XL (by simpa using g),XO z];exact u
 have Q:(H.set i .dead).set j (.cells T (cs.set m (.osl H.length o' n k)))++[x]=(H.set i .dead++[x]).set j (.cells T (cs.set m (.osl H.length o' n k))):=by
  rw[List.set_append_left _ _ (by simpa using g)]
 rw[Q];refine⟨F,σ++[σ[i]],⟨G.weaken f rfl ?_,λq=>(r.env q).mono ext,r.size,r.defers⟩,λ_ q=>q,QH (by rw[r.sim.len];exact XQ V)⟩;have e:σ.length=H.length:=r.sim.len;intro y h;cases y with
 |none=>exact h
 |some b=>
  obtain⟨l,O,X,P⟩:=h;refine⟨l,O,?_,P⟩;clear O P f Q u G
  induction cs generalizing m l with
  |nil=>cases s
  |cons c cs W=>
   obtain⟨v,E,rfl,J,M⟩:=X;cases m with
   |zero=>
    simp at s;subst s;refine⟨v,E,rfl,?_,M⟩;rcases J with h|⟨b,p,B,t,m,L,R⟩
    .exact .inl h
    .refine .inr ⟨b,p,B,t,m,?_,R⟩;rw[XL hiσ,hσ]at L;rw[<- e];simpa using L
   |succ m=>exact⟨v,E,rfl,J,W (by simpa using s) E M⟩
theorem OpU.ins{P:Program}{o:Oper}{H':Qe}{T:Nat}{x y e:Operand}(l:o.op=.insert T x y e)(h:OpU P {o with op:=.mapUpdate T x y e} env H H'):OpU P o env H H':=by
 intro g j σ N a w r;obtain⟨m,d,τ,k,i,f⟩:=h g j σ N a w r;exact⟨m,d,τ,by simpa only[execOp,l]using k,i,f⟩
end
section
variable {P:Program} {o:Oper} {env:Env} {H:Qe} {T kt et:Nat} {α β:Type} [DecidableEq α] {ek:α->A} {ev:β->A} {x y:Operand} {i:Nat} {l:List (α×β)} {k:α} {z:Value} {zA:A}
end
open Go.Sort Go.Proofs Go.Shelf
end Go.Sw
namespace Go.Sw
theorem Qig{P:Program}{T e k:Nat}{w:World}(E1:∀w,(underlying T).run P w=.ok (.slice e) w)(E2:∀w,(sizeOf e).run P w=.ok k w){ad:Option Addr}{n cap:Nat}{z:Int}(d:n<=cap)(a:0<=z)(g:z<=n):
  (Instr.sliceAt T (.slice ad n cap) none (some (.int .i64 z)) (some (.int .i64 z))).run P w=.ok (.slice (if z.toNat=0 then ad else ad.map (·.add (0*k))) (z.toNat-0) (z.toNat-0)) w:=by
 have f:(Instr.sliceBounds true n cap none (some (.int .i64 z)) (some (.int .i64 z))).run P w=.ok (0,z.toNat,z.toNat) w:=by
  simp only[Instr.sliceBounds,Vj,Vk,Result.andThen,Yi a (show z<=(cap:Int)by omega),Yi a (show z<=(z.toNat:Int)by omega)]
 simp only[Instr.sliceAt,Vj,E1,Result.andThen,Instr.slice,f,E2,Vk]
theorem QnL{α:Type}{P:Program}{o:Oper}{env:Env}{H:Qe}{T et k b:Nat}{x hi i:Operand}{l r:List α}{c:Int}(h:slc l 0 c=some r)(E1:∀w,(underlying T).run P w=.ok (.slice et) w)(E2:∀w,(sizeOf et).run P w=.ok k w)
  (t:o.op=.slice T x none (some hi) (some i):=by exact rfl)(hx:opA env x=.osl b 0 l.length k:=by exact rfl)(h1:opA env hi=.int .i64 c:=by exact rfl)(h2:opA env i=.int .i64 c:=by exact rfl):
  OpV P o env H (.osl b (0+Int.toNat 0) (c.toNat-Int.toNat 0) k):=by
 intro L O σ N a w r;obtain⟨M,f,E,_⟩:=QbQ h;have s:=Ql r x;rw[hx]at s;rcases s with⟨g,e⟩|⟨j,p,cap,y,m,g,e,u,⟨F,J⟩,B,G⟩
 .have d:=Qig (P:=P) (w:=w) E1 E2 (ad:=none) (n:=0) (cap:=0) (z:=c) (XS 0) f (by omega);refine⟨_,by simp only[execOp,t,e,Vj,Xl,Xk,QB r h1,QB r h2,d,Result.andThen,Vk];rfl,?_⟩;left;have:c.toNat=0:=by omega
  simp[this]
 .have d:=Qig (P:=P) (w:=w) E1 E2 (ad:=some ⟨j,p,none⟩) (n:=l.length) (cap:=cap) (z:=c) F f E;refine⟨_,by simp only[execOp,t,e,Vj,Xl,Xk,QB r h1,QB r h2,d,Result.andThen,Vk];rfl,?_⟩;right;refine⟨j,p,c.toNat,y,m,g,by simp[Y6],λq=>?_,⟨by simp,by omega⟩,B,?_⟩
  .rw[u (by omega)];simp
  .refine XU (XB k ?_) G;simp only[Int.toNat_zero];omega
theorem TC.label{P:Program}{h0 N l:Nat}{env:Env}{H:Qe}{Q:QR}(h:Q .normal env H):TC P h0 N (.label l) env H Q:=
 λrd fr ro σ a w r hrd=>wpIn_label ⟨_,env,H,ro,σ,fr,rfl,h,r,Qi.refl _ _ _,rfl,Grow.refl _ _ _⟩
theorem Qid{P:Program}{b:Frame}{a:Act}{k:List Item}{cs:List Frame}{w:World}{c:Code}:step P (lone (b.atR a (.code (.scope c)::k)) cs w)=.next (lone (b.atR a (.code c::.inScope c::k)) cs w):=
 step_lone_go (by simp[stepG,stepG.exec,Frame.atR])
theorem Qgm{P:Program}{b:Frame}{a:Act}{k:List Item}{cs:List Frame}{w:World}{c:Code}:step P (lone (b.atR a (.inScope c::k)) cs w)=.next (lone (b.atR a k) cs w):=
 step_lone_go (by simp[stepG,stepG.exec,Frame.atR])
theorem TC.scope{P:Program}{h0 N:Nat}{c:Code}{env:Env}{H:Qe}{Q:QR}(h:TC P h0 N c env H Q):TC P h0 N (.scope c) env H Q:=by
 intro p l q σ a w r hrd b k cs hro hb f;obtain⟨e,n,u,j,d⟩:=h p l q σ a w r hrd b (.inScope c::k) cs hro hb f;refine⟨e,n,u,j,.of_steps (.one (fenced_calm hb f rfl) Qid) ?_⟩;obtain⟨x,i,H',y,σ',s,m,_⟩:=j;cases e with
 |normal=>exact StepsIn.trans d (.one (fenced_calm hb f rfl) Qgm)
 |exit id=>exact⟨λt g=>d.1 t (by rw[exitTo];exact g;simp),λf g=>d.2 f (by rw[exitTo];exact g;simp)⟩
 |ret=>exact d
 |_=>exact m.elim
theorem Qdy{P:Program}{o:Oper}{env:Env}{H:Qe}{p:Nat}{α:Type}{e:α->List A}{T et k:Nat}{x y:Operand}{t L:IntKind}{n:Int}{zv:α}{l:List α}{z:Value}{a:A}(M:mk n zv=some l)(E:Ye P T et k)(B:∀w,(zeroValue et).run P w=.ok z w)(f:ZR a z)
  (F:Ys a=true)(m:Yj a=e zv)(Q:(Yj a).all YA=true)(d:Nat.beq (e zv).length k=true)
  (O:o.op=.makeSlice T x y:=by exact rfl)(hx:opA env x=.int t n:=by exact rfl)(hy:opA env y=.int L n:=by exact rfl):
  OpZR P o env H p (.osl p 0 l.length k) (.row et k (l.map e)):=by
 intro R G σ N act w r;obtain⟨g,J,j,u,s,i,V⟩:=Qky M E B f F m Q d O hx hy r;refine⟨_,_,J,λ_ h=>h.elim,λ σ' hσ ext=>⟨.inr ⟨w.heap.size,0,l.length,et,g.length,hσ,rfl,λ_=>by simp,⟨XS _,by omega⟩,?_,by rw[i,Xv];exact XS _⟩,⟨g,Q9 _ _,?_⟩⟩⟩
 .unfold World.shape?;rw[Q9];simp
 .have:=Y1 (rest:=[]) s (j.mono (w':=w.alloc (.cells g.toArray et)) (σ':=[]) (ro':=G) ⟨λ_ q=>q,ext.keep,ext.shape,λ_ _ q=>q⟩) u
  rwa [Vd]at this
theorem QcY{P:Program}{o:Oper}{env:Env}{H:Qe}{T f off n:Nat}{x:Operand}{cs:List A}{v:A}{fs:Array Field}{g:Field}(h:QK P T f off n)(m:∀w,(underlying T).run P w=.ok (.struct fs) w)(a:fs[f]?=some g)(d:∀w,(isAgg g.type).run P w=.ok false w)
  (l:o.op=.field T x f:=by exact rfl)(hx:opA env x=.agg cs:=by exact rfl)(hv:cs[off]?=some v:=by exact rfl):OpV P o env H v:=
 OpV.field h (λj i k e w=>by
  have:=(k w).symm.trans (m w);cases this;rw[a]at e;cases e;exact d w) l hx hv
section
variable {P:Program} {o:Oper} {env:Env} {H:Qe} {fr ro:Nat->Prop} {σ:Sig} {w:World}
theorem QdC(i n c:Nat):QeA i n (c+1)=QeA i n c++[[.osl i (c*n) n 1]]:=by simp[QeA,List.range_succ]
theorem QaU(i n c:Nat):(QeA i n c).length=c:=by simp[QeA]
theorem QpJ{g i t b n:Nat}(j:H[i]?=some (.row t 1 [])):Le g env H env (H.set i (.wins t b n 0)):=by
 intro k e σ N a w r;refine⟨e,σ,⟨r.sim.weaken (x':=.wins t b n 0) j rfl ?_,r.env,r.size,r.defers⟩,λ_ q=>q,rfl⟩;intro y h;cases y with
 |none=>rfl
 |some d=>obtain⟨l,f,m⟩:=h;exact⟨l,f,trivial⟩
theorem srcR{j m t k:Nat}{l:List (List A)}{x:Blk}{v:Value}(s:Sim fr ro σ H w)(u:H[j]?=some x)(hB:∀d,BR ro σ w x (some d)->∃lb:List Value,w.heap[d]?=some (.cells lb.toArray t (0,0))/\RL ro σ w k l lb)(f:l.length=m)(h:VR ro σ w (.osl j 0 m k) v):
  (∃a c,v=.slice a m c)/\(l=[]\/allK k l)/\ ∃vs:List Value,(∀w':World,w'.heap=w.heap->(Builtin.firstCells k m v).run P w'=.ok vs.toArray w')/\LR ro σ w l.flatten vs/\ ∀v∈vs,QA v:=by
 rcases h with⟨rfl,rfl⟩|⟨b,p,e,J,N,z,rfl,q,⟨G,E⟩,M,L⟩
 .have:l=[]:=VG.1 f;subst this;exact⟨⟨none,0,rfl⟩,.inl rfl,[],λ_ _=>YP,rfl,by simp⟩
 .obtain⟨lb,i,g⟩:=hB b (s.blk j _ _ z u);refine⟨⟨_,e,rfl⟩,.inr g.allK,?_⟩;have B:=YF (pre:=[]) (by simpa using i) g;by_cases r:0<e
  .obtain rfl:=q r;obtain⟨F,O,y⟩:=B.flat;have:=Qa8 (P:=P) (k:=k) (n:=m) (c:=e) F (by rw[y];simp[f]);simpa using this
  .obtain rfl:m=0:=by omega
   have:l=[]:=VG.1 f;subst this;exact⟨[],λ_ _=>YP,rfl,by simp⟩
theorem QnM{c:Call}{T T' t e' i j n b u m off:Nat}{x y:Operand}(E:Ye P T t 1)(hd:∀w,(underlying T').run P w=.ok (.slice e') w)(aj:n+1<=Yn)(M:off=n*m)(hu:u=m)
  (ho:o.op=.call c:=by exact rfl)(hc:c={callee:=.builtin .append,args:= #[x,y],argTypes:= #[T,T']}:=by exact rfl)(hx:opA env x=.osl i 0 n 1:=by exact rfl)(hH:H[i]?=some (.wins t b m n):=by exact rfl)
  (hy:opA env y=.osl j 0 1 1:=by exact rfl)(hHj:H[j]?=some (.rowr t 1 [[.osl b off u 1]]):=by exact rfl):
  OpH P o env H (.osl H.length 0 (n+1) 1) (H.set i .dead++[.wins t b m (n+1)]):=by
 subst M hu;intro fr F σ N a w r;have B:=Ql r x;rw[hx]at B;have h2:=Ql r y;rw[hy]at h2;obtain⟨⟨ay,cy,Y⟩,-,vs,q3,q4,X⟩:=srcR (P:=P) (t:=t) (k:=1) (m:=1) (l:=[[A.osl b (n*u) u 1]]) r.sim hHj (λ_ q=>q) rfl h2;rw[Y]at q3;have O:allK 1 [[A.osl b (n*u) u 1]]:=⟨rfl,trivial⟩;obtain⟨⟨ax,cap,ex⟩,z,e,o1,o2,o3⟩:=srcR (P:=P) (t:=t) (k:=1) (m:=n) (l:=QeA b u n) r.sim hH (λ_ q=>q) (QaU _ _ _) B;have z:allK 1 (QeA b u n):=by
  rcases z with q|q
  .rw[q];trivial
  .exact q
 have R:i<H.length:=(XK.1 hH).1;have G:vs.length=1:=by rw[q4.length];rfl
 have W:e.length=n:=by rw[o2.length,Yt z,QaU];omega
 rw[ex]at o1 B;by_cases g:n+1<=cap
 .rcases B with⟨_,B⟩|⟨d,p,ai,t',mm,h3,B,h4,⟨h5,ag⟩,h6,h7⟩
  .cases B;omega
  cases B;have Q:=r.sim.blk i _ _ h3 hH;obtain⟨lb,g1,g2⟩:=Q;obtain rfl:p=0*1:=h4 (by omega);have h:=QbR (t:=o.type) E hd (ad:=some ⟨d,0*1,none⟩) (n:=n) (m:=1) (cap:=cap) (c:=cy) (ax:=ay) g (q3 w rfl);have J:(n+1)*1<=lb.length:=by
   have:w.shape? d=some (t,lb.length):=by unfold World.shape?;rw[g1];simp
   rw[this]at h6;cases h6;exact XU (XB 1 g) (by simpa using h7)
  have V:=Yh (P:=P) (vs:=vs) (n*1) 0 g1 (by rw[G];simpa using J) X;have s:=r.sim.set (x':=.wins t b u (n+1)) (obj:=.cells (splice lb (n*1) vs).toArray t (0,0)) h3 hH rfl
   (λy hy=>JA g1 (Yf (by rw[G];simpa using J)) y hy)
   (λex af=>⟨_,af,by
    have:=(g2.app (n:=n) (by simp[QaU]) O q4 X).mono ex;rw[VF (by simp[QaU])]at this;rw[QdC];exact this⟩)
  have sm:=s.1.moved (i:=i) (Xa R) h3;rw[List.set_set]at sm;refine⟨.slice (some ⟨d,0*1,none⟩) (n+1) cap,_,F,[some d],?_,.inr ⟨d,0*1,cap,t',mm,?_,rfl,h4,⟨g,ag⟩,?_,h7⟩,sm,s.2⟩
  .refine YJ ho hc _ ?_;rw[ex,Y,h];simp only[Y6,Nat.zero_mul,Xv,Vj,V,Result.andThen,Vk];simp
  .rw[<- r.sim.len];simp
  .exact s.2.shape _ _ h6
 .obtain⟨f,nc,ae,aa,h⟩:=Qfj (t:=o.type) E hd rfl (by omega) (by omega) q3 o1
  let w0:World:={w with drawn:=w.drawn+1}
  have L:Sim fr F σ (H.set i .dead) w0:=(r.sim.kill i).heap rfl;have e0:Qi fr F w F w0:=Qi.heap rfl rfl rfl rfl (Nat.le_succ _);have ah:LR F σ w0 (QeA b u (n+1)).flatten (e++vs):=by
   rw[QdC,Xs];exact(o2.append q4).mono (Ext.heap (w:=w) (w':=w0) rfl)
  have ac:∀v∈e++vs,QA v:=λv hv=>by rcases VA.1 hv with q|q;exact o3 v q;exact X v q
  have s1:=L.alloc (x:=.wins t b u (n+1)) (obj:=.cells ((e++vs)++f).toArray t) ⟨(e++vs)++f,Q9 _ _,(Y1 (by rw[QdC];exact Qb7 z O) ah ac).mono ((Qi.alloc (fr:=fr) _ L.roLt L.frLt).ext σ _)⟩;have ab:Qi fr F w0 F (w0.alloc (.cells ((e++vs)++f).toArray t)):=Qi.alloc _ L.roLt L.frLt;refine⟨_,_,F,[some w.heap.size],YJ ho hc a.eval (by rw[ex,Y];exact h),.inr ⟨w.heap.size,0,nc,t,(e++vs++f).length,?_,rfl,λ_=>by simp,ae,?_,?_⟩,s1,e0.trans ab⟩
  .rw[<- r.sim.len];simp
  .have:=Q9 w0 (.cells ((e++vs)++f).toArray t);unfold World.shape?;rw[show w.heap.size=w0.heap.size from rfl,this];simp
  .simp only[X0,aa,W,G,Xv];omega
theorem Qn4{ro':Nat->Prop}{i n j t:Nat}{es:List (List A)}{v:Value}(s:Sim fr ro σ H w)(hσ:∀c,σ[i]?=some (some c)->ro' c)(x:∀c,ro c->ro' c)(u:H[i]?=some (.row t 1 es))(F:j*n+n<=es.length)
  (h:VR ro σ w (.osl i (j*n) n 1) v):VR ro' [] w (.rsl 1 ((es.drop (j*n)).take n)) v:=by
 have a:((es.drop (j*n)).take n).length=n:=by simp;omega
 rcases h with⟨rfl,rfl⟩|⟨c,p,e,B,m,f,rfl,r,⟨k,_⟩,G,E⟩
 .exact⟨none,0,by rw[a],by rw[a];exact XS _,.inl (VG.1 a)⟩
 .refine⟨_,e,by rw[a],by rw[a];exact k,?_⟩;by_cases z:n=0
  .exact .inl (VG.1 (a.trans z))
  .obtain rfl:=r (by omega);obtain⟨l,g,y⟩:=s.blk i _ _ f u;have q:=(YF (pre:=[]) (by simpa using g) y).keep (ro':=ro') (σ':=[]) (w':=w) ⟨x,λ_ _=>rfl,λ_ _ q=>q,λ_ _ q=>q⟩ rfl;refine .inr ⟨c,_,rfl,hσ c f,?_⟩;have d:=(q.drop (j*n)).take n;simpa using d
def Qmh{α:Type}(l:List α)(n c:Nat):List (List α):=(List.range c).map λj=>(l.drop (j*n)).take n
theorem Qk2{ro':Nat->Prop}{i n t d:Nat}{es:List (List A)}(s:Sim fr ro σ H w)(hσ:∀c,σ[i]?=some (some c)->ro' c)(hs:∀c,ro c->ro' c)(hH:H[i]?=some (.row t 1 es)):
  ∀(l:List Nat) (off:Nat),(∀j∈l,j*n+n<=es.length)->RR ro σ w d 1 (l.map λj=>[.osl i (j*n) n 1]) off->RR ro' [] w d 1 (l.map λj=>[.rsl 1 ((es.drop (j*n)).take n)]) off
 |[],_,_,_=>trivial
 |j::l,off,hl,h=>by
  obtain⟨_,⟨⟨v,h2,h3,h4⟩,_⟩,h6⟩:=h;exact⟨rfl,⟨⟨v,h2,h3,Qn4 s hσ hs hH (hl j (by simp)) h4⟩,trivial⟩,Qk2 s hσ hs hH l (off+1) (λj hj=>hl j (by simp[hj])) h6⟩
theorem QoP{y s i b t t1 n c:Nat}{α:Type}{e:α->List A}{l:List α}(Q:c*n<=l.length)(hi:Nat.ble y i=true)(hb:Nat.ble y b=true)(W:lk env s=.osl i 0 c 1)(x:H[i]?=some (.wins t b n c))(f:H[b]?=some (.row t1 1 (l.map e))):
  Le y env H (up env s (.rsl 1 ((Qmh l n c).map (Qx 1 e)))) ((H.set b .dead).set i .dead):=by
 intro fr X σ N a w r;have E:b≠i:=by rintro rfl;rw[x]at f;cases f
 obtain⟨g,Y,G,L⟩:=r.sim.shutL (l:=[b,i]) (by simp[E]) (by
  intro j u;simp at u;rcases u with rfl|rfl
  .exact⟨_,f,rfl⟩
  .exact⟨_,x,rfl⟩)
 refine⟨g,σ,⟨Y,?_,r.size,r.defers⟩,G,rfl⟩;have ext:Ext X σ w g σ w:=⟨G,λ_ _=>rfl,λ_ _ q=>q,λ_ _ q=>q⟩;intro k;simp only[lk];by_cases q:k=s
 .subst q;rw[VC];have h:=r.env k;rw[W]at h;have e0:(Qmh l n c).map (Qx 1 e)=(List.range c).map λj=>[A.rsl 1 ((((l.map e).drop (j*n)).take n))]:=by
   simp[Qmh,Qx,List.map_drop,List.map_take]
  rw[e0];rcases h with⟨z,h⟩|⟨d,p,F,t',m,J,h,V,⟨O,aa⟩,h4,h5⟩
  .subst z;exact⟨none,0,h,XS _,.inl rfl⟩
  .refine⟨_,F,by simpa using h,by simpa using O,?_⟩;by_cases T:c=0
   .left;subst T;rfl
   .right;obtain rfl:=V (by omega);obtain⟨lv,M,R⟩:=r.sim.blk i _ _ J x;refine⟨d,0,by simp,L i (by simp) d J,?_⟩;refine Qk2 r.sim (L b (by simp)) G f (List.range c) 0 ?_ (YF (pre:=[]) (by simpa using M) R);intro j u;have B:j<c:=by simpa using u
    rw[XZ];refine XU ?_ Q;have:=XB n (show j+1<=c from B)
    rwa [Xz,Nat.one_mul]at this
 .have:Nat.beq k s=false:=by
   rw[VJ];intro P;exact q (XP P)
  rw[this];exact(r.env k).mono ext
theorem QgH{T e k:Nat}(E1:∀w,(underlying T).run P w=.ok (.slice e) w)(E2:∀w,(sizeOf e).run P w=.ok k w){ad:Option Addr}{n cap:Nat}{y z:Int}(a:n<=cap)(f:0<=y)(h:y<=z)(g:z<=n):
  (Instr.sliceAt T (.slice ad n cap) (some (.int .i64 y)) (some (.int .i64 z)) (some (.int .i64 z))).run P w=.ok (.slice (if z.toNat=y.toNat then ad else ad.map (·.add (y.toNat*k))) (z.toNat-y.toNat) (z.toNat-y.toNat)) w:=by
 have d:(Instr.sliceBounds true n cap (some (.int .i64 y)) (some (.int .i64 z)) (some (.int .i64 z))).run P w=.ok (y.toNat,z.toNat,z.toNat) w:=by
  simp only[Instr.sliceBounds,Vj,Vk,Result.andThen,Yi (show 0<=z by omega) (show z<=(cap:Int)by omega),Yi (show 0<=z by omega) (show z<=(z.toNat:Int)by omega),Yi f (show y<=(z.toNat:Int)by omega)]
 simp only[Instr.sliceAt,Vj,E1,Result.andThen,Instr.slice,d,E2,Vk]
theorem Ql3{α:Type}{T et k b:Nat}{x lo hi F:Operand}{l r:List α}{c d:Int}(h:slc l c d=some r)(E1:∀w,(underlying T).run P w=.ok (.slice et) w)(E2:∀w,(sizeOf et).run P w=.ok k w)
  (J:o.op=.slice T x (some lo) (some hi) (some F):=by exact rfl)(hx:opA env x=.osl b 0 l.length k:=by exact rfl)(h0:opA env lo=.int .i64 c:=by exact rfl)(h1:opA env hi=.int .i64 d:=by exact rfl)(h2:opA env F=.int .i64 d:=by exact rfl):
  OpV P o env H (.osl b (0+Int.toNat c) (Int.toNat d-Int.toNat c) k):=by
 intro R V σ N a w r;obtain⟨j,t,M,_⟩:=QbQ h;have G:=Ql r x;rw[hx]at G;rcases G with⟨g,f⟩|⟨i,p,cap,u,m,g,f,L,⟨O,Q⟩,B,s⟩
 .have e:=QgH (P:=P) (w:=w) E1 E2 (ad:=none) (n:=0) (cap:=0) (y:=c) (z:=d) (XS 0) j t (by omega);refine⟨_,by simp only[execOp,J,f,Vj,Xl,Xk,QB r h0,QB r h1,QB r h2,e,Result.andThen,Vk];rfl,?_⟩;left;have:d.toNat-c.toNat=0:=by omega
  simp[this]
 .have e:=QgH (P:=P) (w:=w) E1 E2 (ad:=some ⟨i,p,none⟩) (n:=l.length) (cap:=cap) (y:=c) (z:=d) O j t M;refine⟨_,by simp only[execOp,J,f,Vj,Xl,Xk,QB r h0,QB r h1,QB r h2,e,Result.andThen,Vk];rfl,?_⟩;right;by_cases E:d.toNat=c.toNat
  .refine⟨i,p,d.toNat-c.toNat,u,m,g,by simp[E],λq=>by omega,⟨XS _,by omega⟩,B,?_⟩;refine XU (XB k ?_) s;omega
  .refine⟨i,p+c.toNat*k,d.toNat-c.toNat,u,m,g,by simp[E,Y6],λq=>?_,⟨XS _,by omega⟩,B,?_⟩
   .rw[L (by omega)];simp
   .refine XU (XB k ?_) s;omega
end
def fnm(P:Program)(i:Nat):String:=match P.funcs[i]? with|some f=>f.name|none=>""
theorem Qj4{P:Program}{f:FuncId}{B:Func}(d:(fnm P f=="runtime.NumGoroutine")=false)(h:P.funcs[f]?=some {B with name:=fnm P f}):Go.Proofs.Bears P f B:=⟨_,d,h⟩
def slK(P:Program)(t:Nat):Nat:=match P.underlying t with|some (.slice e)=>e|_=>0
def zA1:A->Value
 |.int k n=>.int k n
 |.bool b=>.bool b
 |.str _=>.string ⟨#[]⟩
 |.rsl _ _=>.slice none 0 0
 |.nils=>.slice none 0 0
 |.nilp=>.pointer none
 |.nilm=>.map none
 |.nilif=>.nilIface
 |_=>.nilFunc
def zA:A->Value
 |.agg r=>.agg (r.map zA1).toArray
 |a=>zA1 a
def kL(P:Program)(F:List (Nat×List (Nat×Nat)))(T:TyX)(Z:TyZ)(w:World):=
 (F.map λe=>(underlying e.1).run P w,F.map λe=>(P.fieldsOf e.1).toList.map λf=>(f.offset,(sizeOf f.type).run P w),
  T.ty.agg.map λe=>((isAgg e.1).run P w,(sizeOf e.1).run P w),T.ty.zer.map λe=>(zeroValue e.1).run P w,
  T.al.map λe=>(zeroValue e.1).run P w,T.sl.map λt=>(underlying t).run P w,Z.sl.map λe=>((underlying e.1).run P w,(sizeOf e.2.1).run P w))
def kR(P:Program)(F:List (Nat×List (Nat×Nat)))(T:TyX)(Z:TyZ)(w:World):=
 (F.map λe=>Result.ok (TypeDesc.struct (P.fieldsOf e.1)) w,F.map λe=>e.2.map λx=>(x.1,Result.ok x.2 w),
  T.ty.agg.map λe=>(Result.ok e.2.1 w,Result.ok e.2.2 w),T.ty.zer.map λe=>Result.ok (zA (.agg e.2.1)) w,
  T.al.map λe=>Result.ok (zA e.2) w,T.sl.map λt=>Result.ok (TypeDesc.slice (slK P t)) w,Z.sl.map λe=>(Result.ok (TypeDesc.slice e.2.1) w,Result.ok e.2.2 w))
def kT(F:List (Nat×List (Nat×Nat)))(T:TyX):Bool:=
 chkF F T.ty.fld&&T.ty.zer.all (λe=>zrB (.agg e.2.1) (zA (.agg e.2.1))&&F.contains (e.1,e.2.2))&&T.al.all λe=>zrB e.2 (zA e.2)&&Ys e.2&&(Yj e.2).all YA
theorem QbX{α β:Type}{L:List α}{f g:World->α->β}(h:∀w,L.map (f w)=L.map (g w)){e:α}(he:e∈L)(w:World):f w e=g w e:=List.map_inj_left.1 (h w) e he
theorem PL.ofK{P:Program}:∀{fs:List Field} {pl:List (Nat×Nat)},(∀w:World,fs.map (λf=>(f.offset,(sizeOf f.type).run P w))=pl.map λx=>(x.1,Result.ok x.2 w))->PL P fs pl
 |[],[],_=>.nil
 |[],_::_,h=>by cases h default
 |_::_,[],h=>by cases h default
 |f::fs,(a,n)::pl,h=>by
  have h1:=λw=>List.cons.inj (h w);have e:=λw=>Prod.mk.inj (h1 w).1;obtain rfl:f.offset=a:=(e default).1;exact .cons (λw=>(e w).2) (PL.ofK λw=>(h1 w).2)
section
variable {P:Program} {F:List (Nat×List (Nat×Nat))} {T:TyX} {Z:TyZ}
theorem Qof(h:kL P F T Z=kR P F T Z):∀e∈F,Qd0 P e.1 e.2:=λe he=>
 ⟨_,λw=>by simpa using QbX (f:=λw e=>(underlying e.1).run P w) (λw=>(Prod.mk.inj (congrFun h w)).1) he w,PL.ofK λw=>QbX (f:=λw e=>(P.fieldsOf e.1).toList.map λf=>(f.offset,(sizeOf f.type).run P w)) (λw=>(Prod.mk.inj (Prod.mk.inj (congrFun h w)).2).1) he w⟩
theorem QaY.ofK(h:kL P F T Z=kR P F T Z)(k:kT F T=true):QaY P T:=by
 have d:=Qof h;simp only[kT,XV,Xt]at k;refine⟨⟨Qpx d k.1.1,λe a=>?_,λe a=>?_⟩,λe a=>?_,λe a=>?_⟩
 .have:=QbX (f:=λw e=>((isAgg e.1).run P w,(sizeOf e.1).run P w)) (λw=>(Prod.mk.inj (Prod.mk.inj (Prod.mk.inj (congrFun h w)).2).2).1) a;exact⟨λw=>(Prod.mk.inj (this w)).1,λw=>(Prod.mk.inj (this w)).2⟩
 .have:=QbX (f:=λw e=>(zeroValue e.1).run P w) (λw=>(Prod.mk.inj (Prod.mk.inj (Prod.mk.inj (Prod.mk.inj (congrFun h w)).2).2).2).1) a;have q:=k.1.2 e a;exact⟨⟨_,this,zrC q.1⟩,d _ (List.contains_iff_mem.1 q.2)⟩
 .have:=QbX (f:=λw e=>(zeroValue e.1).run P w) (λw=>(Prod.mk.inj (Prod.mk.inj (Prod.mk.inj (Prod.mk.inj (Prod.mk.inj (congrFun h w)).2).2).2).2).1) a;have q:=k.2 e a;exact⟨⟨_,this,zrC q.1.1⟩,q.1.2,Xt.2 q.2⟩
 .exact⟨_,QbX (f:=λw t=>(underlying t).run P w) (λw=>(Prod.mk.inj (Prod.mk.inj (Prod.mk.inj (Prod.mk.inj (Prod.mk.inj (Prod.mk.inj (congrFun h w)).2).2).2).2).2).1) a⟩
theorem QcH.ofK(h:kL P F T Z=kR P F T Z)(k:∀f∈Z.fn,∀(a:Array Value) (w:World),(callFunc f a).run P w=.ok (.enter f a) w):QcH P Z:=⟨λe he=>by
 have:=QbX (f:=λw e=>((underlying e.1).run P w,(sizeOf e.2.1).run P w)) (λw=>(Prod.mk.inj (Prod.mk.inj (Prod.mk.inj (Prod.mk.inj (Prod.mk.inj (Prod.mk.inj (congrFun h w)).2).2).2).2).2).2) he;exact⟨λw=>(Prod.mk.inj (this w)).1,λw=>(Prod.mk.inj (this w)).2⟩,k⟩
theorem QpC{L:List Nat}(h:(λ(a:Array Value) (w:World)=>L.map λf=>(callFunc f a).run P w)=λa w=>L.map λf=>.ok (.enter f a) w):∀f∈L,∀(a:Array Value) (w:World),(callFunc f a).run P w=.ok (.enter f a) w:=
 λf hf a=>QbX (f:=λw f=>(callFunc f a).run P w) (λw=>congrFun (congrFun h a) w) hf
end
section
variable {P:Program}
theorem Qkh.c{f:Field}{fs:List Field}{h off e:Nat}{a d:List Value->Prop}(g:∀h,Qh7 P f.type (h+1) 1 false a)(i:Qkh P fs (h+1) (off+1) e d)(j:Nat.beq f.offset off=true:=by exact rfl)(hn:f.name≠"_":=by decide):
  Qkh P (f::fs) (h+1) off (1+e) (λl=>∃l1 l2,l=l1++l2/\a l1/\d l2):=Qkh.cons j hn (g h) (λ_=>rfl) i
theorem RF.c1{n:Nat}{T:Type}{e:T->List A}{wf:T->Prop}{f:Field}{fs:List Field}{off L:Nat}{T2:Type}{d:T2->List A}{a:T2->Prop}(h:RB P n f.type T e wf)(r:RF P n fs (off+1) L T2 d a)(g:f.offset=off:=by exact rfl)(hk:P.cellsOf f.type=1:=by kernel_rfl):
  RF P n (f::fs) off L (T×T2) (λp=>e p.1++d p.2) (λp=>wf p.1/\a p.2):=RF.cons g hk h r
end
@[reducible] def Kp{β:Type}(P:Program)(F:Option β)(f:FuncId)(args:List A)(H:Qe)(w:β->A)(H1:β->Qe):Prop:=∀r,F=some r->C P f args H (RQ w H1 r)
theorem Kp.b{β:Type}{P:Program}{F:Option β}{f:FuncId}{fn:Func}{c:Code}{N:Nat}{args:List A}{H:Qe}{w:β->A}{H1:β->Qe}(hf:P.funcs[f]?=some fn)(hb:fn.body=some c)(hN:fn.ntmps=N)(hA:Nat.ble args.length N=true)
  (h:∀r,F=some r->TC P H.length N c (Qep 0 args) H (QbA P H.length fn (RQ w H1 r))):Kp P F f args H w H1:=λr e=>QO hf hb hN hA (h r e)
abbrev Ea:=@Ev.bind
abbrev Ec:=@FzH.keep
abbrev Ed:=@FzL.cons
abbrev Ee:=@FzA.refl
abbrev Ef:=@PL.cons
abbrev Eg:=@DS.done
abbrev Eh:=@Ev.and
abbrev Ei:=@EvI.done
abbrev Ej:=@FzL.refl
abbrev Ek:=@OpH.lit
abbrev El:=@RF.cons
abbrev Em:=@RF.c1
abbrev En:=@Le.trans
abbrev Eo:=@ZR.int
abbrev Ep:=@FzA.o
abbrev Er:=@Le.phantom
abbrev Et:=@Ev.or
abbrev Eu:=@Ev.eq
abbrev Ew:=@EvI.cont
abbrev Ex:=@OpU.store
abbrev Ey:=@OpV.load
abbrev Ez:=@Ev.const
theorem Zf.{u,v}{α:Sort u}{β:Sort v}{f:α->β}:∀x,f x=f x:=λ_=>rfl
abbrev Ze.{u,v}{α:Sort u}{β:Type v}:α->List β:=λ_=>[]
end Go.Sw
