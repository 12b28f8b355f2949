/- The rules by which the code is walked, with what they rest on (part 3). -/
import Derived.Test.YthnmbndffmhalaaGreatDoorL2
import Derived.Shelf.Spec.SlicesInsertGrow
set_option linter.unusedVariables false
set_option linter.unusedSectionVars false
set_option linter.unusedSimpArgs false
namespace Go.Sw
open Option renaming some→AC,none→AF
open Bool renaming false→AD,true→AE
open Decidable renaming decide→AG
open Go renaming World→AJ,Program→AK,Value→AL,Oper→AM
inductive Kf where
 |seq (c:Code)
 |blo (id:Nat)
 |unr (c:Code)
inductive Cf where
 |code (c:Code)
 |ops (all:Array AM) (l:List AM)
 |out (x:U4)
def kq(P:AK)(h0 N:Nat):AA Kf->QP->QP
 |[],Q=>Q
 |.seq c::k,Q=>PF P h0 N c (kq P h0 N k Q)
 |.blo id::k,Q=>Ot id (kq P h0 N k Q)
 |.unr c::k,Q=>Rg P h0 N c (kq P h0 N k Q)
@[reducible] def Hd(P:AK)(h0 N:Nat):Cf->AA Kf->Env->Qc->QP->Prop
 |.code c,k,env,H,Q=>TC P h0 N c env H (kq P h0 N k Q)
 |.ops all l,k,env,H,Q=>WO P h0 N all l env H (kq P h0 N k Q)
 |.out x,k,env,H,Q=>kq P h0 N k Q x env H
def T7(T:Fb)(h0 N:Nat):Cf->AA Kf->Env->Qc->AB (Cf×AA Kf×Env×Qc)
 |.code (.seq a b),k,env,H=>AC (.code a,.seq b::k,env,H)
 |.code (.block id c),k,env,H=>AC (.code c,.blo id::k,env,H)
 |.code (.loop c),k,env,H=>AC (.code c,.unr c::k,env,H)
 |.code .skip,k,env,H=>AC (.out .normal,k,env,H)
 |.code .ret,k,env,H=>AC (.out .ret,k,env,H)
 |.code (.exit id),k,env,H=>AC (.out (.exit id),k,env,H)
 |.code (.region id ⟨l⟩ AD),k,env,H=>AC (.ops ⟨l⟩ l,k,env,H)
 |.code (.cond x a b),k,env,H=>match Cy env x with
  |.mk (.bool AE)=>AC (.code a,k,env,H)
  |.mk (.bool AD)=>AC (.code b,k,env,H)
  |_=>AF
 |.ops all [],k,env,H=>AC (.out .normal,k,env,H)
 |.ops all (o::l),k,env,H=>match dG T h0 N all o env H with
  |some (env',H')=>AC (.ops all l,k,env',H')
  |none=>AF
 |.out .normal,.seq c::k,env,H=>AC (.code c,k,env,H)
 |.out (.exit i),.seq _::k,env,H=>AC (.out (.exit i),k,env,H)
 |.out .ret,.seq _::k,env,H=>AC (.out .ret,k,env,H)
 |.out .normal,.blo _::k,env,H=>AC (.out .normal,k,env,H)
 |.out (.exit i),.blo id::k,env,H=>match Nat.beq i id with
  |true=>AC (.out .normal,k,env,H)
  |false=>AC (.out (.exit i),k,env,H)
 |.out .ret,.blo _::k,env,H=>AC (.out .ret,k,env,H)
 |.out .normal,.unr c::k,env,H=>AC (.code c,.unr c::k,env,H)
 |.out (.exit i),.unr _::k,env,H=>AC (.out (.exit i),k,env,H)
 |.out .ret,.unr _::k,env,H=>AC (.out .ret,k,env,H)
 |_,_,_,_=>AF
def Iv(T:Fb)(h0 N:Nat):Nat->Cf->AA Kf->Env->Qc->AB (Cf×AA Kf×Env×Qc)
 |0,c,k,env,H=>AC (c,k,env,H)
 |n+1,c,k,env,H=>match T7 T h0 N c k env H with
  |some (c',k',env',H')=>Iv T h0 N n c' k' env' H'
  |none=>AF
variable {H:Qc}{S:Type}{env env':Env}
section
variable {P:AK} {T:Fb} {h0 N:Nat} {Q:QP}
theorem yd(e:IA P T){c a:Cf}{k d:AA Kf}{H':Qc}(h:T7 T h0 N c k env H=AC (a,d,env',H'))(g:Hd P h0 N a d env' H' Q):Hd P h0 N c k env H Q:=by
 unfold T7 at h;split at h
 .cases h;exact TC.seq g
 .cases h;exact TC.block g
 .cases h;exact yP g
 .cases h;exact TC.skip g
 .cases h;exact TC.ret g
 .cases h;exact TC.exit g
 .cases h;exact TC.region g
 .split at h
  .rename_i q;cases h;exact wg (QU q) rfl g
  .rename_i q;cases h;exact we (QU q) rfl g
  .cases h
 .cases h;exact WO.nil g
 .grind[lN]
 .cases h;exact gR g
 .cases h;exact gP g
 .cases h;exact gQ g
 .cases h;exact kr g
 .split at h
  .rename_i q;cases h;have:=XR q;subst this;exact ks g
  .rename_i q;cases h;exact ko q g
 .cases h;exact kp g
 .cases h;exact gK g
 .cases h;exact gI g
 .cases h;exact gJ g
 .cases h
theorem Z'(hT:IA P T):∀(n:Nat) {c c':Cf} {k k':AA Kf} {env env':Env} {H H':Qc},Iv T h0 N n c k env H=AC (c',k',env',H')->Hd P h0 N c' k' env' H' Q->Hd P h0 N c k env H Q
 |0,c,c',k,k',env,env',H,H',h,g=>by cases h;exact g
 |n+1,c,c',k,k',env,env',H,H',h,g=>by
  unfold Iv at h;split at h
  .rename_i e;exact yd hT e (Z' hT n h g)
  .cases h
theorem pw{s:Nat}{a:A}(h:lk env s=a):∀t,lk (up env s a) t=lk env t:=by
 intro t;simp[lk];cases q:Nat.beq t s with
 |true=>simp_all
 |false=>rfl
theorem Is{α:Type}{all:Array AM}{l:AA AM}{b:Bool}{x y:AB α}{r:α}(s:Nat)(h:(bif b then x else y)=AC r)(d:Tk env s=.mk (.bool b))
  (t:b=AE->x=AC r->WO P h0 N all l (up env s (.bool AE)) H Q)(e:b=AD->y=AC r->WO P h0 N all l (up env s (.bool AD)) H Q):WO P h0 N all l env H Q:=by
 have a:=lG d;cases b with
 |true=>exact WO.le (Le.env λt=>.inr (pw a t)) (t rfl h)
 |false=>exact WO.le (Le.env λt=>.inr (pw a t)) (e rfl h)
theorem oL{B1:Type}{A B C:Code}{k:AA Kf}{b:Bn S B1}(Eb:S->Env)(Hb:S->Qc)(h:TC P h0 N A env H (kq P h0 N [.seq B] (PP h0 b Eb Hb (kq P h0 N (.seq C::k) Q))))(g:∀s env H,b=.k s->Le h0 env H (Eb s) (Hb s)->kq P h0 N (.seq C::k) Q .normal env H):TC P h0 N (.seq A (.seq B C)) env H (kq P h0 N k Q):=
 wh Eb Hb h g
end
def km(o:AM)(i:Nat):Nat:=match o.dst with|some d=>d|none=>1000000+i
def J0:Nat->Nat->AA AM->AA Nat
 |0,_,_=>[]
 |_+1,_,[]=>[]
 |m+1,i,o::l=>km o i::J0 m (i+1) l
def Yc(af:AA Nat):Nat->AA Nat->AA A->Env->Env
 |j,d::ds,x::xs,e=>(d,bif JX af j then x else .any)::Yc af (j+1) ds xs e
 |j,d::ds,[],e=>(d,.any)::Yc af (j+1) ds [] e
 |_,[],_,e=>e
variable {t:Nat}
theorem QgQ{l:AA Nat}:JX l t=l.contains t:=by
 induction l with
 |nil=>rfl
 |cons a r d=>
  grind[JX,Nat.eq_of_beq_eq_true,Nat.beq_refl]
theorem lg{af:AA Nat}{env0:Env}{s:Nat}:∀(a:AA Nat) (xs f:AA A) (b:Nat),
  (∃(j:Nat) (x:A),af.contains (b+j)=AE/\a[j]?=AC s/\(xs++f)[j]?=AC x/\lk (Yc af b a xs env0) s=x)\/lk (Yc af b a xs env0) s=.any\/(a.contains s=AD/\lk (Yc af b a xs env0) s=lk env0 s):=by
 intro a
 induction a with
 |nil=>intro xs f b;right;right;exact⟨rfl,by rfl⟩
 |cons d a n=>
  intro xs f b;have next:∀(e:AA A),(∃(j:Nat) (x:A),af.contains (b+1+j)=AE/\a[j]?=AC s/\(e++f)[j]?=AC x/\lk (Yc af (b+1) a e env0) s=x)->∀p,(∃(j:Nat) (x:A),af.contains (b+j)=AE/\(d::a)[j]?=AC s/\(p::e++f)[j]?=AC x/\lk (Yc af (b+1) a e env0) s=x):=by
   rintro e ⟨j,x,k,i,m,l⟩ p;exact⟨j+1,x,by grind,by grind,by grind,l⟩
  cases xs with
  |nil=>
   cases q:Nat.beq s d with
   |true=>simp_all[Yc,lk]
   |false=>
    have g:s≠d:=λz=>by simp_all
    simp only[Yc,lk,q,Vr];rcases n [] [] (b+1)with⟨j,x,k,i,m,l⟩|h|⟨k,i⟩
    .simp at m
    .grind
    grind
  |cons x xs=>
   cases q:Nat.beq s d with
   |true=>
    have:=XR q;subst this;simp only[Yc,lk,q,Vq];cases c:JX af b with
    |true=>left;exact⟨0,x,by rw[<- QgQ];exact c,rfl,rfl,rfl⟩
    |false=>simp
   |false=>
    have g:s≠d:=λz=>by simp_all
    simp only[Yc,lk,q,Vr];rcases n xs f (b+1)with h|h|⟨k,i⟩
    .exact .inl (next xs h x)
    .grind
    grind
variable {d id:Nat}{o:AM}
section
variable {P:AK} {T:Fb} {h0 N m:Nat} {l:AA AM} {ds:AA Nat} {env:Env} {H:Qc} {Q:QP} {K:AA AM->Env->Qc->Prop}
def DS(P:AK)(N m:Nat)(l:AA AM)(ds:AA Nat)(env:Env)(H:Qc)(K:AA AM->Env->Qc->Prop)(r:AA AM)(xs:AA A):Prop:=
 r=l.drop xs.length->∃ys,xs.length+ys.length=m/\(∀j,xs.length<=j->j<m->JB P N l ds (xs++ys) env H.length H.length j H H)/\K (l.drop m) (H_ ds (xs++ys) env) H
theorem V_{xs:AA A}:∀(c i:Nat),(∀j,i<=j->j<i+c->JB P N l ds xs env H.length H.length j H H)->Oq P N l ds xs env H i c
 |0,i,_=>.n
 |c+1,i,h=>.c (by grind) (V_ c (i+1) (by grind))
theorem xD{k:AA Kf}(m:Nat)(d:P.follows .mixedOrders=AE)(g:Go.Sw.draw0 l m N (J0 m 0 l)=AE)(a:Nat.ble h0 H.length=AE)
  (h:DS P N m l (J0 m 0 l) env H (λr e H=>WO P h0 N l.toArray r e H Q) l []):TC P h0 N (.region id l.toArray AE) env H Q:=by
 obtain⟨f,n,j,i⟩:=h rfl;exact TC.draw0 m _ f d g (by simp_all) a (V_ m 0 (by grind)) i
theorem DS.done{xs:AA A}{r:AA AM}(a:Nat.beq xs.length m=AE)(h:K r (H_ ds xs env) H):DS P N m l ds env H K r xs:=by
 intro g;have e:=XR a;refine⟨[],by simpa using e,λj d f=>by omega,?_⟩
 grind
theorem DS.add{xs:AA A}{r:AA AM}{x:A}(g:Nat.blt xs.length m=AE)(e:∀ys,l[xs.length]?=AC o->JB P N l ds (xs++x::ys) env H.length H.length xs.length H H)(k:DS P N m l ds env H K r (xs++[x])):DS P N m l ds env H K (o::r) xs:=by
 intro d;have a:xs.length<l.length:=by
  grind[List.drop_eq_nil_of_le]
 rw[Xq a]at d;cases d;obtain⟨ys,i,h,f⟩:=k (by simp)
 grind
theorem mn{xs a:AA A}{x:A}:(xs++x::a)[xs.length]?=AC x:=by simp
theorem DS.wo{xs:AA A}{r:AA AM}{x:A}(h:WO P H.length N l.toArray [o] (Yc (Qh o) 0 ds xs env) H (Y0 (up (Yc (Qh o) 0 ds xs env) d x) H))(k:DS P N m l ds env H K r (xs++[x]))
  (e:o.dst=AC d:=by rfl)(hx:Nat.blt xs.length m=true:=by rfl):DS P N m l ds env H K (o::r) xs:=
 .add hx (λa f=>.woE o _ d x f e mn (he:=by
  intro s;rcases lg (af:=Qh o) (env0:=env) (s:=s) ds xs (x::a) 0 with⟨j,y,i,n,g,p⟩|q|q
  .grind
  .grind
  grind) (hdd:=tn H) (h:=h)) k
theorem DS.v{xs:AA A}{r:AA AM}{x:A}(h:Bz P o (Yc (Qh o) 0 ds xs env) H x)(k:DS P N m l ds env H K r (xs++[x]))(hg:QE l.toArray o (Yc (Qh o) 0 ds xs env) true:=by rfl)
  (hd:o.dst=AC d:=by rfl)(hN:Nat.blt d N=true:=by rfl)(hx:Nat.blt xs.length m=true:=by rfl):DS P N m l ds env H K (o::r) xs:=
 .wo (YJ hg hd hN h (WO.nil Y0.mk)) k hd hx
def Iw:AA A->A->FL
 |[],x=>.mk [x]
 |a::r,x=>match Iw r x with
  |.mk r'=>.mk (a::r')
theorem JE:∀(l:AA A) (x:A),Iw l x=.mk (l++[x])
 |[],x=>rfl
 |a::r,x=>by unfold Iw;rw[JE r];rfl
def Zw(T:Fb)(N m:Nat)(l:AA AM)(ds:AA Nat)(env:Env)(H:Qc):Nat->Nat->AA AM->AA A->AB (AA AM×AA A)
 |0,_,r,xs=>AC (r,xs)
 |_+1,_,[],_=>AF
 |n+1,i,o::r,xs=>match Nat.blt i m with
  |false=>AF
  |true=>match o.dst with
   |none=>AF
   |some d=>match Nat.blt d N with
    |false=>AF
    |true=>match YX ⟨l⟩ o (Yc (Qh o) 0 ds xs env)with
     |none=>AF
     |some AD=>match Iw xs (.tup [])with
      |.mk xs'=>Zw T N m l ds env H n (i+1) r xs'
     |some AE=>match HZ T o (Yc (Qh o) 0 ds xs env) H with
      |none=>AF
      |some x=>match Iw xs x with
       |.mk xs'=>Zw T N m l ds env H n (i+1) r xs'
theorem mg(hT:IA P T):∀(n i:Nat) {r r':AA AM} {xs xs':AA A},i=xs.length->Zw T N m l ds env H n i r xs=AC (r',xs')->DS P N m l ds env H K r' xs'->DS P N m l ds env H K r xs
 |0,i,r,r',xs,xs',_,h,k=>by cases h;exact k
 |n+1,i,[],r',xs,xs',_,h,k=>by cases h
 |n+1,i,o::r,r',xs,xs',hi,h,k=>by
  subst hi;unfold Zw at h;split at h
  .cases h
  .rename_i q1;split at h
   .cases h
   .rename_i d hd;split at h
    .cases h
    .rename_i q2;split at h
     .cases h
     .rename_i hw;simp[JE]at h;exact .wo (WO.skip (QL hw) hd q2 (WO.nil Y0.mk)) (mg hT n _ (by simp) h k) hd q1
     .rename_i hw;split at h
      .cases h
      .rename_i x hv;simp[JE]at h;exact .v (MI hT hv) (mg hT n _ (by simp) h k) (QL hw) hd q2 q1
def Rb:AA A->Nat->A->FL
 |[],_,_=>.mk []
 |_::r,0,x=>.mk (x::r)
 |a::r,n+1,x=>match Rb r n x with
  |.mk r'=>.mk (a::r')
theorem aP:∀{l:AA A} {n:Nat} {x:A},YW l n=AC x->Rb l n x=.mk l
 |[],n,x,h=>by cases h
 |a::r,0,x,h=>by cases h;rfl
 |a::r,n+1,x,h=>by unfold Rb;rw[aP (l:=r) h]
theorem Y3{α:Type}{b:Bool}{x y:AB α}{v:α}{xs a d:AA A}{r:AA AM}(j:Nat)(h:(bif b then x else y)=AC v)(g:YW xs j=AC (.bool b))(f:Rb xs j (.bool AE)=.mk a)(i:Rb xs j (.bool AD)=.mk d)
  (t:b=AE->x=AC v->DS P N m l ds env H K r a)(e:b=AD->y=AC v->DS P N m l ds env H K r d):DS P N m l ds env H K r xs:=by
 cases b with
 |true=>simp_all[aP]
 |false=>simp_all[aP]
end
variable {β:Type}
@[reducible] def RQ(w:β->A)(Hc:β->Qc)(r:β):A->Qc->Prop:=λa H=>a=w r/\H=Hc r
@[reducible] def DE(P:AK)(f:FuncId)(args:AA A)(H:Qc)(w:β->A)(r:β):Prop:=C P f args H (RQ w (λ_=>H) r)
structure PC where
 sl:List (Nat×Nat×Nat)
 fn:List Nat
structure Kx (P:AK) (Z:PC):Prop where
 sl:∀e∈Z.sl,(∀w,(underlying e.1).run P w=.ok (.slice e.2.1) w)/\ ∀w,(sizeOf e.2.1).run P w=.ok e.2.2 w
 fn:∀f∈Z.fn,∀(a:Array AL) (w:AJ),(callFunc f a).run P w=.ok (.enter f a) w
variable {F:AB β}{Hc:Qc}{α γ:Type}
variable {F':β->AB γ}{L:AA α}
section
variable {P:AK} {Z:PC} {h0 N:Nat} {all:Array AM} {o:AM} {l:AA AM} {env:Env} {H:Qc} {Q:QP} {d:Nat}
theorem uP(r:Kx P Z){e:α->AA A}{a k:Nat}{n:IntKind}{i:Int}{v:α}(h:Bt L i=AC v)(q:Tp o env=AC (d,t,k,L.map e,n,i))(g:WO P h0 N all l (up env d (.rp (e v))) H Q)
  (j:Hw Z.sl t=AC (a,k))(hg:YX all o env=AC AE)(p:Nat.blt d N=AE):WO P h0 N all (o::l) env H Q:=by
 obtain⟨m,f⟩:=r.sl _ (M1 j);exact Ix h m f q g (QL hg) p
theorem Ize(p:Kx P Z){e:α->AA A}{f k:Nat}{m:IntKind}{i:Int}{v:α}{a:AA A}(h:Bt L i=AC v)(he:e v=a)(q:Tp o env=AC (d,t,k,L.map e,m,i))(g:WO P h0 N all l (up env d (.rp a)) H Q)
  (j:Hw Z.sl t=AC (f,k))(hg:YX all o env=AC AE)(n:Nat.blt d N=AE):WO P h0 N all (o::l) env H Q:=by
 subst he;exact uP p h q g j hg n
theorem Lmz(m:Kx P Z){e:α->AA A}{i k a:Nat}(q:Tj o env=AC (d,t,.mk (.rsl k (L.map e))))(g:WO P h0 N all l (up env d (.int .i64 L.length)) H Q)
  (f:Hw Z.sl t=AC (i,a))(hg:YX all o env=AC AE)(j:Nat.blt d N=AE):WO P h0 N all (o::l) env H Q:=by
 obtain⟨h,n⟩:=m.sl _ (M1 f);exact Uy h q g (QL hg) j
def L'(Z:PC)(o:AM)(env:Env):AB (Nat×Nat×AA A):=
 match o.dst with
 |none=>AF
 |some d=>match o.op with
  |.call {callee:=.value (.func f),args:=⟨xs⟩,argTypes:=_}=>bif JX Z.fn f then(match fl (PI env xs)with|.mk ax=>AC (d,f,ax))else AF
  |.call {callee:=.value (.tmp x),args:=⟨xs⟩,argTypes:=_}=>match Cy env (.tmp x)with
   |.mk (.fn (.func f) vf vc)=>bif JX Z.fn f then(match fl (vf++(PI env xs++vc))with|.mk ax=>AC (d,f,ax))else AF
   |_=>AF
  |_=>AF
theorem eS(i:Kx P Z){f:Nat}{args:AA A}(h:L' Z o env=AC (d,f,args)):o.dst=AC d/\DN P o env H f args:=by
 unfold L' at h;split at h
 .cases h
 .rename_i m j;split at h
  .rename_i a g l e;cases q:JX Z.fn a with
   |false=>grind
   |true=>
    rw[q]at h;simp only[MD]at h;cases h;exact⟨j,DN.fn (i.fn _ (mE q)) e rfl (Z6 g).symm⟩
  .rename_i x g l e;split at h
   .rename_i a n p k;cases q:JX Z.fn a with
    |false=>grind
    |true=>
     rw[q]at h;simp only[MD]at h;cases h;exact⟨j,pj (i.fn _ (mE q)) e rfl (QU k) (by rw[Z6])⟩
   .cases h
  .cases h
theorem Czz(i:Kx P Z){r:γ}{f:Nat}{args a:AA A}{w:β->A}(π:AA Nat)(h:F.bind F'=AC r)(s:∀v,F=AC v->C P f a Hc (RQ w (λ_=>Hc) v))
  (e:L' Z o env=AC (d,f,args))(g:∀v,F=AC v->F' v=AC r->WO P h0 N all l (up env d (w v)) H Q)(t:∀v,Tv (w v)=AC (.mk (w v)))
  (hargs:args=Fd (CF π H.length) a)(hH:π.map (λp=>H[p]?)=(Hc.map (Q1 (CF π H.length))).map AC)(hπ:π.Nodup)(hg:YX all o env=AC AE)(u:Nat.blt d N=AE)(n:Nat.ble h0 H.length=AE):WO P h0 N all (o::l) env H Q:=by
 obtain⟨v,q,m⟩:=Q7 h;obtain⟨j,k⟩:=eS (H:=H) i e
 grind[Pc,QL]
theorem DzZ(s:Kx P Z){K:AA AM->Env->Qc->Prop}{m:Nat}{j:AA AM}{e:AA Nat}{xs:AA A}{r:γ}{f:Nat}{args a:AA A}{w:β->A}(π:AA Nat)(h:F.bind F'=AC r)(x:∀v,F=AC v->C P f a Hc (RQ w (λ_=>Hc) v))
  (i:L' Z o (Yc (Qh o) 0 e xs env)=AC (d,f,args))(g:∀v,F=AC v->F' v=AC r->DS P N m j e env H K l (xs++[w v]))(y:∀v,Tv (w v)=AC (.mk (w v)))
  (hargs:args=Fd (CF π H.length) a)(hH:π.map (λp=>H[p]?)=(Hc.map (Q1 (CF π H.length))).map AC)(hπ:π.Nodup)(hg:YX j.toArray o (Yc (Qh o) 0 e xs env)=AC AE)(z:Nat.blt d N=AE)(t:Nat.blt xs.length m=AE):DS P N m j e env H K (o::l) xs:=by
 obtain⟨v,n,u⟩:=Q7 h;obtain⟨k,q⟩:=eS s i;exact .wo (Pc π k q (x v n) (y v) (WO.nil Y0.mk) hargs hH hπ (QL hg) z (by simp)) (g v n u) k t
theorem ln:HW H [] []:=trivial
theorem ls{ax d:AA A}{a:A}(k:HW H ax d)(h:YH a=true:=by rfl):HW H (a::ax) (a::d):=⟨.inl ⟨rfl,h⟩,k⟩
theorem lo{ax a:AA A}{i n k:Nat}{es:AA (AA A)}(d:HW H ax a)(hH:H[i]?=AC (.row t k es):=by rfl)(hn:es.length=n:=by exact X3 ..):HW H (.osl i 0 n k::ax) (.rsl k es::a):=
 ⟨.inr (by grind),d⟩
theorem Cbz(m:Kx P Z){r:γ}{f:Nat}{args a:AA A}{w:β->A}(h:F.bind F'=AC r)(n:∀v,F=AC v->C P f a [] (RQ w (λ_=>[]) v))
  (e:L' Z o env=AC (d,f,args))(i:HW H args a)(g:∀v,F=AC v->F' v=AC r->WO P h0 N all l (up env d (w v)) H Q)(t:∀v,Yu (w v)=AE)
  (hg:YX all o env=AC AE)(q:Nat.blt d N=AE):WO P h0 N all (o::l) env H Q:=by
 obtain⟨v,p,s⟩:=Q7 h;obtain⟨j,k⟩:=eS m e;refine qy k i (n v p) ?_ ?_ (QL hg) j q
 .grind
 grind
end
def ixL:AA Nat:=[0,1,2,3,4,5,6,7,8,9,10,11,12,13,14,15,16,17,18,19,20,21,22,23,24,25,26,27,28,29,30,31,32,33,34,35,36,37,38,39,40,41,42,43,44,45,46,47,48,49,50,51,52,53,54,55,56,57,58,59,60,61,62,63]
def RZ:AA Nat->AA Nat->Nat->FN
 |a::r,b::s,j=>bif Nat.beq a j then .mk b else RZ r s j
 |_,_,j=>.mk j
mutual
def od(sel:AA Nat):A->Bx
 |.ptr i off=>match RZ sel ixL i with
  |.mk j=>.mk (.ptr j off)
 |.osl i o n k=>match RZ sel ixL i with
  |.mk j=>.mk (.osl j o n k)
 |.map i=>match RZ sel ixL i with
  |.mk j=>.mk (.map j)
 |.fn f a c=>match ZW sel a,ZW sel c with
  |.mk a',.mk c'=>.mk (.fn f a' c')
 |a=>.mk a
def ZW(sel:AA Nat):AA A->FL
 |[]=>.mk []
 |a::r=>match od sel a,ZW sel r with
  |.mk a',.mk r'=>.mk (a'::r')
end
inductive FV where
 |mk (e:Env)
def kx(sel:AA Nat)(env:Env):AA Nat->Env->FV
 |[],nE=>.mk nE
 |s::r,nE=>match Tk env s with
  |.mk a=>match od sel a,kx sel env r nE with
   |.mk a',.mk e=>.mk ((s,a')::e)
def MU(H:Qc):AA Nat->AA Nat->AA (Nat×B8)->FB
 |a::r,p::ps,[]=>match YW H a,MU H r ps []with
  |some b,.mk l=>.mk (b::l)
  |none,.mk l=>.mk l
 |a::r,p::ps,(q,b)::n=>bif Nat.beq p q then(match MU H r ps n with|.mk l=>.mk (b::l))else(match YW H a,MU H r ps ((q,b)::n)with
  |some b,.mk l=>.mk (b::l)
  |none,.mk l=>.mk l)
 |_,_,_=>.mk []
def Rd(sel keep:AA Nat)(nE:Env)(nH:AA (Nat×B8))(env:Env)(H:Qc):AB (Env×Qc):=
 match kx sel env keep nE,MU H sel ixL nH with
 |.mk e,.mk h=>AC (e,h)
variable {E':β->Env}{H':β->Qc}
section
variable {P:AK} {h0 N:Nat} {c:Code} {env:Env} {H:Qc} {Q:QP}
def RW(h0:Nat)(b:β)(E':β->Env)(H':β->Qc)(Q:QP):QP
 |.normal,env,H=>Le h0 env H (E' b) (H' b)
 |.exit id,env,H=>Q (.exit id) env H
 |.ret,env,H=>Q .ret env H
theorem IL{h0:Nat}{b:β}(h:Le h0 env H (E' b) (H' b)):RW h0 b E' H' Q .normal env H:=h
theorem Ct(b:β)(sel keep:AA Nat)(nE:β->Env)(nH:β->AA (Nat×B8))(_:∀b,Rd sel keep (nE b) (nH b) env H=AC (E' b,H' b))(h:TC P h0 N c env H (RW h0 b E' H' Q))(k:∀env H,Le h0 env H (E' b) (H' b)->Q .normal env H):TC P h0 N c env H Q:=
 h.mono λx env' H' q=>by
  cases x with
  |normal=>exact k _ _ q
  |exit id=>exact q
  |ret=>exact q
theorem FI{B:Type}{b:Bn S B}{E':S->Env}{H':S->Qc}(sel keep:AA Nat)(nE:S->Env)(nH:S->AA (Nat×B8))(_:∀s,Rd sel keep (nE s) (nH s) env H=AC (E' s,H' s))(h:TC P h0 N c env H (PP h0 b E' H' Q))(k:∀s env H,b=.k s->Le h0 env H (E' s) (H' s)->Q .normal env H):TC P h0 N c env H Q:=qV E' H' h k
theorem Lp{B:Type}{step:S->AB (Bn S B)}{E':S->Env}{H':S->Qc}{m:Nat}{s0:S}{b0:B}(sel keep:AA Nat)(nE:S->Env)(nH:S->AA (Nat×B8))(h:iter step m s0=AC b0)(_:∀s,Rd sel keep (nE s) (nH s) env H=AC (E' s,H' s))(hI:Le h0 env H (E' s0) (H' s0))
  (body:∀s d,step s=AC d->(∀b,d=.d b->b=b0)->TC P h0 N c (E' s) (H' s) (UO (λs env H=>Le h0 env H (E' s) (H' s)) d Q)):TC P h0 N (.loop c) env H Q:=TC.loop E' H' h hI body
end
theorem Oj{S B:Type}{d:Bn S B}{x b0:B}(hb:∀b,d=.d b->b=b0)(h:AC (Bn.d x)=AC d):x=b0:=hb x (Oi h).symm
variable {P:AK}{fn:Func}
theorem Rt{a:Nat}{β:Type}{e r:β}{w:β->A}{Hc:β->Qc}(h:AC e=AC r)(s:Nat)(π:AA Nat)(d:fn.results= #[.tmp s]:=by rfl)(hpre:π.take a=List.range a:=by rfl)
  (hH:π.map (λp=>H[p]?)=((Hc e).map (Q1 (CF π H.length))).map some:=by rfl)(hπ:π.Nodup:=by decide)(hE:H9 (CF π H.length) env [(s,w e)]:=by exact⟨rfl,trivial⟩):M2 P a fn (RQ w Hc r) .ret env H:=by
 cases h;exact R1 s d (Lr π hpre hH hπ hE)
variable {Q:QP}
theorem Cl{e b:β}(h:AC e=AC b)(π:AA Nat)(a:π.take d=List.range d:=by rfl)
  (hH:π.map (λp=>H[p]?)=((H' e).map (Q1 (CF π H.length))).map some:=by rfl)(hπ:π.Nodup:=by decide)(hE:H9 (CF π H.length) env (E' e):=by(repeat' (first|exact trivial|refine⟨rfl,?_⟩))):RW d b E' H' Q .normal env H:=by
 cases h;exact Lr π a hH hπ hE
def O4(cat:AA Nat):AA (AA (Nat×Nat)):=cat.map λc=>match c with|0=>[(0,0)]|1=>[(0,1)]|2=>[(1,1)]|_=>[(0,0),(1,1)]
def oS(b:Nat)(cat:AA Nat):AA (AA Nat):=cat.map λc=>match c with|2=>[b]|_=>[]
def oZ(cat:AA Nat):AA Bool:=cat.map λc=>match c with|1=>AE|_=>AD
section
variable {P:AK} {T:Fb} {h0 N m b:Nat} {cat:AA Nat} {l:AA AM} {ds:AA Nat} {env:Env} {H H1:Qc} {Q:QP} {K:AA AM->Env->Qc->Prop}
theorem lw{P:AK}{N:Nat}{l:AA AM}{ds:AA Nat}{xs:AA A}{env0:Env}{hB hE:Nat}:∀(ss:AA (AA (Qc×Qc))) (b:Nat),(∀i s,ss[i]?=AC s->∀p∈s,JB P N l ds xs env0 hB hE (b+i) p.1 p.2)->B7 P N l ds xs env0 hB hE b ss
 |[],b,h=>.nil
 |s::ss,b,h=>.cons (h 0 s rfl) (lw ss (b+1) λi s' hs=>by rw[show b+1+i=b+(i+1)by omega];simp_all)
def cr(P:AK)(N:Nat)(cat:AA Nat)(l:AA AM)(ds:AA Nat)(env:Env)(H H1:Qc)(zs:AA A)(j:Nat):Prop:=
 ∀p∈(O4 cat).getD j [],JB P N l ds zs env H.length H.length j ([H,H1].getD p.1 []) ([H,H1].getD p.2 [])
def DB(P:AK)(N m:Nat)(cat:AA Nat)(l:AA AM)(ds:AA Nat)(env:Env)(H H1:Qc)(K:AA AM->Env->Qc->Prop)(r:AA AM)(xs:AA A):Prop:=
 r=l.drop xs.length->∃ys,xs.length+ys.length=m/\(∀j,xs.length<=j->j<m->cr P N cat l ds env H H1 (xs++ys) j)/\K (l.drop m) (H_ ds (xs++ys) env) H1
def DA(P:AK)(N m:Nat)(cat:AA Nat)(l:AA AM)(ds:AA Nat)(env:Env)(H:Qc)(K:AA AM->Env->Qc->Prop)(r:AA AM)(xs:AA A):Prop:=
 r=l.drop xs.length->∃ys H1,xs.length+ys.length=m/\H.length<=H1.length/\(∀j,xs.length<=j->j<m->cr P N cat l ds env H H1 (xs++ys) j)/\K (l.drop m) (H_ ds (xs++ys) env) H1
theorem vC{d:AA A}(f:cat.length=m)(k:∀j,0<=j->j<m->cr P N cat l ds env H H1 d j):B7 P N l ds d env H.length (H.length+0) 0 ((O4 cat).map λq=>q.map λp=>([H,H1].getD p.1 [],[H,H1].getD p.2 [])):=by
 refine lw _ 0 λi s a p g=>?_;rw[Xp]at a;cases e:(O4 cat)[i]? with
 |none=>grind
 |some q=>
  rw[e]at a;cases a;obtain⟨h,n,rfl⟩:=Xe.1 g;have r:i<m:=by
   grind[O4]
  have:=k i (XV _) r h (by grind)
  grind
theorem DA.len(a:H.length<=H1.length):[H,H1].all (λX=>Nat.ble (H.length+0) X.length)=true:=by
 simp_all
theorem xB(m b:Nat)(cat:AA Nat)(j:P.follows .mixedOrders=AE)(p:G4 l m N (J0 m 0 l) (oZ cat) (oS b cat) [[],[b]] (O4 cat)=AE)(f:Nat.beq cat.length m=AE)(d:Nat.ble h0 H.length=AE)
  (h:DA P N m cat l (J0 m 0 l) env H (λr e H=>WO P h0 N l.toArray r e H Q) l []):TC P h0 N (.region id l.toArray AE) env H Q:=by
 obtain⟨g,H1,q,n,k,i⟩:=h rfl;have a:=XR f;exact Jf m 0 _ _ _ _ _ g [H,H1] H1 j p (by grind) rfl d (DA.len n) (by simp) rfl (vC a k) (by simp[O4,a]) i
theorem UW{xs:AA A}{r:AA AM}(d:o::r=l.drop xs.length):l[xs.length]?=AC o/\r=l.drop (xs.length+1):=by
 have a:xs.length<l.length:=by
  grind[List.drop_eq_nil_of_le]
 rw[Xq a]at d
 grind
theorem eD{zs:AA A}{j c:Nat}(a:YW cat j=AC c)(h:∀p∈match c with|0=>[(0,0)]|1=>[(0,1)]|2=>[(1,1)]|_=>[(0,0),(1,1)],JB P N l ds zs env H.length H.length j ([H,H1].getD p.1 []) ([H,H1].getD p.2 [])):cr P N cat l ds env H H1 zs j:=by
 intro p d
 grind[MG,O4]
theorem MH{hB hE:Nat}{xs a:AA A}{x:A}{X X':Qc}(e:l[xs.length]?=AC o)(hdd:JS hB hE X X'=AE)(h:WO P X.length N l.toArray [o] (Yc (Qh o) 0 ds xs env) X (Y0 (up (Yc (Qh o) 0 ds xs env) d x) X'))(f:o.dst=AC d):
  JB P N l ds (xs++x::a) env hB hE xs.length X X':=
 .woE o _ d x e f mn (he:=by
  intro s;rcases lg (af:=Qh o) (env0:=env) (s:=s) ds xs (x::a) 0 with⟨j,y,i,k,g,m⟩|q|q
  .grind
  .grind
  grind) (hdd:=hdd) (h:=h)
theorem YY{n:Nat}{X X':Qc}:JS n n X X'=true:=by unfold JS;simp
theorem DA.wo{xs:AA A}{r:AA AM}{x:A}(h:WO P H.length N l.toArray [o] (Yc (Qh o) 0 ds xs env) H (Y0 (up (Yc (Qh o) 0 ds xs env) d x) H))(k:DA P N m cat l ds env H K r (xs++[x]))
  (t:YW cat xs.length=AC 0:=by rfl)(hd:o.dst=AC d:=by rfl)(hx:Nat.blt xs.length m=true:=by rfl):DA P N m cat l ds env H K (o::r) xs:=by
 intro w;obtain⟨u,g⟩:=UW w;obtain⟨f,H1,s,n,i,a⟩:=k (by grind);simp[Vj,Vi]at s i a;refine⟨x::f,H1,by grind,n,λj y z=>?_,a⟩;rcases VC xs.length j with q|q
 .grind
 .obtain rfl:j=xs.length:=by omega
  refine eD t λp e=>?_;obtain rfl:=VB.1 e;exact MH u YY h hd
theorem DA.op{xs:AA A}{r:AA AM}{x:A}(h:WO P H.length N l.toArray [o] (Yc (Qh o) 0 ds xs env) H (Y0 (up (Yc (Qh o) 0 ds xs env) d x) H1))(k:DB P N m cat l ds env H H1 K r (xs++[x]))(y:Nat.ble H.length H1.length=true:=by rfl)
  (hc:YW cat xs.length=AC 1:=by rfl)(hd:o.dst=AC d:=by rfl)(hx:Nat.blt xs.length m=true:=by rfl):DA P N m cat l ds env H K (o::r) xs:=by
 intro t;obtain⟨s,g⟩:=UW t;obtain⟨f,n,i,a⟩:=k (by grind);simp[Vj,Vi]at n i a;refine⟨x::f,H1,by grind,(by simp_all),λj u w=>?_,a⟩;rcases VC xs.length j with q|q
 .grind
 .obtain rfl:j=xs.length:=by omega
  refine eD hc λp e=>?_;obtain rfl:=VB.1 e;exact MH s YY h hd
theorem Mv{xs:AA A}{r:AA AM}{x x':A}{H1':Qc}(h:Do P o (Yc (Qh o) 0 ds xs env) H x H1)(a:KQ x=.mk x')(e:W9 H1=.mk H1')(k:DB P N m cat l ds env H H1' K r (xs++[x']))(f:o.dst=AC d:=by rfl)(hg:YX ⟨l⟩ o (Yc (Qh o) 0 ds xs env)=AC true:=by rfl)(hN:Nat.blt d N=true:=by rfl)(hl:Nat.ble H.length H1'.length=true:=by rfl)
  (hc:YW cat xs.length=AC 1:=by rfl)(hx:Nat.blt xs.length m=true:=by rfl):DA P N m cat l ds env H K (o::r) xs:=by
 rw[d_]at a;rw[lT]at e;cases a;cases e;exact .op (eG (XU _) (QL hg) f hN h (WO.nil Y0.mk)) k hl hc f hx
theorem DB.done{xs:AA A}{r:AA AM}(a:Nat.beq xs.length m=AE)(h:K r (H_ ds xs env) H1):DB P N m cat l ds env H H1 K r xs:=by
 intro g;have e:=XR a;refine⟨[],by simpa using e,λj d f=>by omega,?_⟩
 grind
theorem DB.add{xs:AA A}{r:AA AM}{x:A}(e:∀ys,l[xs.length]?=AC o->cr P N cat l ds env H H1 (xs++x::ys) xs.length)(k:DB P N m cat l ds env H H1 K r (xs++[x])):DB P N m cat l ds env H H1 K (o::r) xs:=by
 intro d;obtain⟨i,a⟩:=UW d;obtain⟨ys,h,g,f⟩:=k (by grind)
 grind
theorem DB.wo1{xs:AA A}{r:AA AM}{x:A}(h:WO P H1.length N l.toArray [o] (Yc (Qh o) 0 ds xs env) H1 (Y0 (up (Yc (Qh o) 0 ds xs env) d x) H1))(k:DB P N m cat l ds env H H1 K r (xs++[x]))
  (a:YW cat xs.length=AC 2:=by rfl)(hd:o.dst=AC d:=by rfl):DB P N m cat l ds env H H1 K (o::r) xs:=
 .add (λg f=>eD a λp e=>by
  obtain rfl:=VB.1 e;exact MH f YY h hd) k
theorem DB.wo2{xs:AA A}{r:AA AM}{x:A}(h:WO P H.length N l.toArray [o] (Yc (Qh o) 0 ds xs env) H (Y0 (up (Yc (Qh o) 0 ds xs env) d x) H))(f:WO P H1.length N l.toArray [o] (Yc (Qh o) 0 ds xs env) H1 (Y0 (up (Yc (Qh o) 0 ds xs env) d x) H1))(k:DB P N m cat l ds env H H1 K r (xs++[x]))
  (g:YW cat xs.length=AC 3:=by rfl)(hd:o.dst=AC d:=by rfl):DB P N m cat l ds env H H1 K (o::r) xs:=
 .add (λi e=>eD g λp a=>by
  rcases X7.1 a with rfl|a
  .exact MH e YY h hd
  .obtain rfl:=VB.1 a;exact MH e YY f hd) k
def Zv(T:Fb)(N m:Nat)(cat:AA Nat)(l:AA AM)(ds:AA Nat)(env:Env)(H:Qc):Nat->Nat->AA AM->AA A->AB (AA AM×AA A)
 |0,_,r,xs=>AC (r,xs)
 |_+1,_,[],_=>AF
 |n+1,i,o::r,xs=>match Nat.blt i m,YW cat i with
  |true,AC 0=>match o.dst with
   |none=>AF
   |some d=>match Nat.blt d N with
    |false=>AF
    |true=>match YX ⟨l⟩ o (Yc (Qh o) 0 ds xs env)with
     |none=>AF
     |some AD=>match Iw xs (.tup [])with
      |.mk xs'=>Zv T N m cat l ds env H n (i+1) r xs'
     |some AE=>match HZ T o (Yc (Qh o) 0 ds xs env) H with
      |none=>AF
      |some x=>match Iw xs x with
       |.mk xs'=>Zv T N m cat l ds env H n (i+1) r xs'
  |_,_=>AF
theorem mf(hT:IA P T):∀(n i:Nat) {r r':AA AM} {xs xs':AA A},i=xs.length->Zv T N m cat l ds env H n i r xs=AC (r',xs')->DA P N m cat l ds env H K r' xs'->DA P N m cat l ds env H K r xs
 |0,i,r,r',xs,xs',_,h,k=>by cases h;exact k
 |n+1,i,[],r',xs,xs',_,h,k=>by cases h
 |n+1,i,o::r,r',xs,xs',hi,h,k=>by
  subst hi;unfold Zv at h;split at h
  .rename_i q1 q0;split at h
   .cases h
   .rename_i d hd;split at h
    .cases h
    .rename_i q2;split at h
     .cases h
     .rename_i hw;simp[JE]at h;exact .wo (WO.skip (QL hw) hd q2 (WO.nil Y0.mk)) (mf hT n _ (by simp) h k) q0 hd q1
     .rename_i hw;split at h
      .cases h
      .rename_i x hv;simp[JE]at h;exact .wo (YJ (QL hw) hd q2 (MI hT hv) (WO.nil Y0.mk)) (mf hT n _ (by simp) h k) q0 hd q1
  .cases h
theorem xO{p:Bx}{r:Lx}(h:MW [] p=AC r):MW H p=AC r:=by
 unfold MW at h⊢
 grind[YW]
theorem mV{e:Env}{x:A}(h:HZ T o e []=AC x):HZ T o e H=AC x:=by
 unfold HZ at h⊢;split at h<;>first|exact h|skip
 split at h
 .cases h
 grind[xO]
def Rh(T:Fb)(N:Nat)(cat:AA Nat)(l:AA AM)(ds:AA Nat)(env:Env)(H1:Qc):Nat->Nat->AA AM->AA A->AB (AA AM×AA A)
 |0,_,r,xs=>AC (r,xs)
 |_+1,_,[],_=>AF
 |n+1,i,o::r,xs=>match o.dst with
  |none=>AF
  |some d=>match Nat.blt d N with
   |false=>AF
   |true=>match YX ⟨l⟩ o (Yc (Qh o) 0 ds xs env)with
    |none=>AF
    |some AD=>match YW cat i with
     |some 2=>(match Iw xs (.tup [])with
      |.mk xs'=>Rh T N cat l ds env H1 n (i+1) r xs')
     |some 3=>(match Iw xs (.tup [])with
      |.mk xs'=>Rh T N cat l ds env H1 n (i+1) r xs')
     |_=>AF
    |some AE=>match YW cat i with
     |some 2=>(match HZ T o (Yc (Qh o) 0 ds xs env) H1 with
      |none=>AF
      |some x=>match Iw xs x with
       |.mk xs'=>Rh T N cat l ds env H1 n (i+1) r xs')
     |some 3=>(match HZ T o (Yc (Qh o) 0 ds xs env) []with
      |none=>AF
      |some x=>match Iw xs x with
       |.mk xs'=>Rh T N cat l ds env H1 n (i+1) r xs')
     |_=>AF
theorem aS(hT:IA P T):∀(n i:Nat) {r r':AA AM} {xs xs':AA A},i=xs.length->Rh T N cat l ds env H1 n i r xs=AC (r',xs')->DB P N m cat l ds env H H1 K r' xs'->DB P N m cat l ds env H H1 K r xs
 |0,i,r,r',xs,xs',_,h,k=>by cases h;exact k
 |n+1,i,[],r',xs,xs',_,h,k=>by cases h
 |n+1,i,o::r,r',xs,xs',hi,h,k=>by
  subst hi;unfold Rh at h;split at h
  .cases h
  .rename_i d hd;split at h
   .cases h
   .rename_i q2;split at h
    .cases h
    .rename_i hw;split at h
     .rename_i q0;simp[JE]at h;exact .wo1 (WO.skip (QL hw) hd q2 (WO.nil Y0.mk)) (aS hT n _ (by simp) h k) q0 hd
     .rename_i q0;simp[JE]at h;exact .wo2 (WO.skip (QL hw) hd q2 (WO.nil Y0.mk)) (WO.skip (QL hw) hd q2 (WO.nil Y0.mk)) (aS hT n _ (by simp) h k) q0 hd
     .cases h
    .rename_i hw;split at h
     .rename_i q0;split at h
      .cases h
      .rename_i x hv;simp[JE]at h;exact .wo1 (YJ (QL hw) hd q2 (MI hT hv) (WO.nil Y0.mk)) (aS hT n _ (by simp) h k) q0 hd
     .rename_i q0;split at h
      .cases h
      .rename_i x hv;simp[JE]at h;exact .wo2 (YJ (QL hw) hd q2 (MI hT (mV hv)) (WO.nil Y0.mk)) (YJ (QL hw) hd q2 (MI hT (mV hv)) (WO.nil Y0.mk)) (aS hT n _ (by simp) h k) q0 hd
     .cases h
end
def ZX(L:AA (Nat×AA (Nat×Nat)))(fs:AA (Nat×Nat×Nat)):Bool:=
 fs.all λe=>match Hw L e.1 with
  |some pl=>(match YW pl e.2.1 with
   |some q=>Nat.beq q.1 e.2.2&& !(Nat.beq q.2 0)
   |none=>AD)
  |none=>AD
theorem PL.get{fs:AA Field}{d:AA (Nat×Nat)}(h:PL P fs d):∀{f a n:Nat},YW d f=AC (a,n)->∃fd,fs[f]?=AC fd/\fd.offset=a/\ ∀w,(sizeOf fd.type).run P w=.ok n w:=by
 induction h with
 |nil=>intro f a n h;cases h
 |cons h k g=>
  intro f a n e;cases f with
  |zero=>cases e;grind
  |succ f=>grind[YW]
theorem ue{L:AA (Nat×AA (Nat×Nat))}{fs:AA (Nat×Nat×Nat)}(d:∀e∈L,T9 P e.1 e.2)(h:ZX L fs=AE):∀e∈fs,∃n,QT P e.1 e.2.1 e.2.2 n:=by
 intro e j;have:=Xu.1 h e j;split at this
 .rename_i t a;split at this
  .rename_i q k;obtain⟨f,n⟩:=q;simp only[XX,Bool.not_eq_true']at this;have g:=XR this.1;obtain⟨l,r,m⟩:=d _ (M1 a);obtain⟨p,u,s,i⟩:=PL.get m k;refine⟨n,⟨⟨_,p,r,by grind,s.trans g,i,?_⟩⟩⟩
   grind[Nat.beq_refl]
  .cases this
 .cases this
section
variable {P:AK} {Z:PC} {h0 N:Nat} {all:Array AM} {o:AM} {l:AA AM} {env:Env} {H:Qc} {Q:QP} {d:Nat}
theorem Cdz(k:Kx P Z){r:γ}{f:Nat}{args a:AA A}{w:β->A}{Hr:β->Qc}(π:AA Nat)(h:F.bind F'=AC r)(q:∀v,F=AC v->C P f a Hc (RQ w Hr v))
  (e:L' Z o env=AC (d,f,args))(g:∀v,F=AC v->F' v=AC r->WO P h0 N all l (up env d (Y6 (CF π H.length) (w v))) (Yj H π ((Hr v).map (Q1 (CF π H.length)))) Q)
  (hargs:args=Fd (CF π H.length) a)(hH:π.map (λp=>H[p]?)=(Hc.map (Q1 (CF π H.length))).map AC)(hπ:π.Nodup)(hg:YX all o env=AC AE)(s:Nat.blt d N=AE)(m:Nat.ble h0 H.length=AE):WO P h0 N all (o::l) env H Q:=by
 obtain⟨v,n,t⟩:=Q7 h;obtain⟨i,j⟩:=eS (H:=H) k e;refine Qs π j (q v n) ?_ hargs hH hπ (QL hg) i s m
 grind
end
inductive FLL where
 |mk (l:List (List A))
def ZV(sel:AA Nat):AA (AA A)->FLL
 |[]=>.mk []
 |a::r=>match ZW sel a,ZV sel r with
  |.mk a',.mk r'=>.mk (a'::r')
inductive FBk where
 |mk (b:B8)
def kn(sel:AA Nat):B8->FBk
 |.cells t cs=>match ZW sel cs with
  |.mk l=>.mk (.cells t l)
 |.rowr t k es=>match ZV sel es with
  |.mk l=>.mk (.rowr t k l)
 |.wins t a n c=>match RZ sel ixL a with
  |.mk a'=>.mk (.wins t a' n c)
 |.ents t a b es=>match RZ sel ixL a,RZ sel ixL b with
  |.mk a',.mk b'=>.mk (.ents t a' b' es)
 |b=>.mk b
def U_(H:Qc)(sel:AA Nat):AA Nat->FB
 |[]=>.mk []
 |a::r=>match YW H a with
  |some b=>(match kn sel b,U_ H sel r with
   |.mk b',.mk l=>.mk (b'::l))
  |none=>.mk []
def gS(sel sl:AA Nat)(env:Env)(H:Qc):AB (Env×Qc):=
 match kx sel env sl [],U_ H sel sel with
 |.mk e,.mk h=>AC (e,h)
theorem Rx{f:Nat}{E':Env}{H':Qc}{Qr:A->Qc->Prop}{e:A}(π sl:AA Nat)(_:gS π sl env H=AC (E',H'))(d:Hv P fn E' H' e)(g:Qr e H')(a:π.take f=List.range f:=by rfl)
  (hH:π.map (λp=>H[p]?)=(H'.map (Q1 (CF π H.length))).map some:=by rfl)(hπ:π.Nodup:=by decide)(hE:H9 (CF π H.length) env E':=by(repeat' (first|exact trivial|refine⟨rfl,?_⟩))):M2 P f fn Qr .ret env H:=
 ⟨E',H',e,Lr π a hH hπ hE,d,g⟩
variable {T:Type}
def Ti:AA T->T->AA T->Prop:=λl x rem=>l=x::rem
def HJ{S T B:Type}(step:S->T->AB (Bn S B)):AA T->S->AB (Bn S B)
 |[],s=>AC (.k s)
 |x::l,s=>(step s x).bind λd=>match d with
  |.k s'=>HJ step l s'
  |.d b=>AC (.d b)
def ME{S T B:Type}(step:S->AB (AA T×Bn S B)):Nat->S->AB (AA T×B)
 |0,_=>AF
 |n+1,s=>(step s).bind λp=>match p.2 with
  |.k s'=>(ME step n s').bind λq=>AC (p.1++q.1,q.2)
  |.d b=>AC (p.1,b)
variable {B:Type}
def o5(h1:Nat)(env:Env)(Q:QP)(d:Bn S B)(Hp:S->Qc):QP
 |.normal,env',H'=>∃s,d=.k s/\Le h1 env' H' [] (Hp s)
 |.exit id,env',H'=>(∃b,d=.d b)/\ ∃H2,Le h1 env' H' [] H2/\Q (.exit id) env H2
 |.ret,env',H'=>(∃b,d=.d b)/\ ∃H2,Le h1 env' H' [] H2/\Q .ret env H2
theorem Z_{S B:Type}{h1:Nat}{H':Qc}{s:S}{d:Bn S B}{Hp:S->Qc}(e:AC (Bn.k s)=AC d)(h:Le h1 env' H' [] (Hp s)):o5 h1 env Q d Hp .normal env' H':=⟨s,(Oi e).symm,h⟩
theorem aL{h0 N:Nat}{m:Operand}{ps:AA Nat}{assign body:Code}{f:FuncId}{a g:AA A}{T B:Type}{enc:T->AA A}{xs:AA T}{step:S->T->AB (Bn S B)}{u:S}{D:Bn S B}
  (π:AA Nat)(Hp:S->Qc)(h:HJ step xs u=AC D)(r:Zg P f g Hc enc Ti xs)(n:∀x,(enc x).length=ps.length)(J:∀args w,(callFunc f args).run P w=.ok (.enter f args) w)
  (V:Nat.ble h0 H.length=AE)(hg:Bu env m=.fn (.func f) [] a)(hargs:a=Fd (CF π H.length) g)(hH:π.map (λp=>H[p]?)=(Hc.map (Q1 (CF π H.length))).map AC)(hπ:π.Nodup)(y:(ps.all λp=>Nat.blt p N)=AE)
  (j:Le H.length env (PU H π) env (Hp u))
  (i:∀s x d,step s x=AC d->(∀b,d=.d b->D=.d b)->TC P H.length N assign (Zm ps (enc x) env) (Hp s) λe env1 H1=>e=.normal/\TC P H.length N body env1 H1 (o5 H.length env Q d Hp))
  (k:∀s,D=.k s->Q .normal env (Hp s)):TC P h0 N (.rangeFunc m ps.toArray assign body) env H Q:=by
 refine TC.rangeFunc π Hp (λs l=>HJ step l s=AC D) u (by simp_all) hg hargs hH hπ y J r n j h ?_ ?_
 .rintro s l x rem t rfl;obtain⟨d,O,t⟩:=Q7 t;refine(i s x d O ?_).mono ?_
  .grind
  .rintro e env1 H1 ⟨R,G⟩;refine⟨R,G.mono ?_⟩;intro L F H2 q;cases L with
   |normal=>
    obtain⟨E,rfl,j⟩:=q;exact⟨Hp E,j,E,t,rfl⟩
   |exit id=>
    obtain⟨_,H3,z,q⟩:=q;exact⟨H3,z,q⟩
   |ret=>
    obtain⟨_,H3,z,q⟩:=q;exact⟨H3,z,q⟩
 .intro s M;exact k s (Oi M).symm
section
variable {T:Type} {X:FS T} {P:AK} {h0 N:Nat} {c:Code} {env:Env} {H:Qc} {st:HE T} {Q:YV T}
def Zz(h0:Nat)(E:S->Env)(Hp:S->Qc)(d:Bn S B)(rest:AA T)(Q:YV T):YV T
 |.normal,env,H,st=>∃s,d=.k s/\Le h0 env H (E s) (Hp s)/\st=.on rest
 |.exit id,env,H,st=>Q (.exit id) env H st
 |.ret,env,H,st=>Q .ret env H st
theorem yR{S B:Type}{step:S->AB (AA T×Bn S B)}{E:S->Env}{Hp:S->Qc}{m:Nat}{i:S}{k rem:AA T}{b:B}(h:ME step m i=AC (k,b))(F:Le h0 env H (E i) (Hp i))
  (body:∀s zs d rest,step s=AC (zs,d)->(∀b',d=.d b'->b'=b/\rest=rem)->Cs X P h0 N c (E s) (Hp s) (.on (zs++rest)) (Zz h0 E Hp d rest Q)):Cs X P h0 N (.loop c) env H (.on (k++rem)) Q:=by
 refine yQ (I:=λn env H t=>∃s a,ME step n s=AC (a,b)/\t=.on (a++rem)/\Le h0 env H (E s) (Hp s)) ?_ ⟨i,k,h,rfl,F⟩;rintro n env H t ⟨s,a,f,rfl,l⟩;cases n with
 |zero=>cases f
 |succ n=>
  obtain⟨⟨zs,d⟩,r,f⟩:=Q7 f;refine Cs.le l ?_;cases d with
  |k w=>
   obtain⟨⟨u,G⟩,z,f⟩:=Q7 f;cases f;rw[Vj];refine(body s zs (.k w) (u++rem) r (λb' e=>by cases e)).mono ?_;rintro x g H' p q;cases x with
   |normal=>
    obtain⟨y,e,j,rfl⟩:=q;cases e;exact⟨n,Xo n,_,_,z,rfl,j⟩
   |exit id=>exact q
   |ret=>exact q
  |d b'=>
   cases f;refine(body s _ (.d b) rem r (λb' e=>by cases e;exact⟨rfl,rfl⟩)).mono ?_;rintro x g H' p q;cases x with
   |normal=>obtain⟨y,e,_⟩:=q;cases e
   |exit id=>exact q
   |ret=>exact q
def MY(X:FS T)(P:AK)(h0 N:Nat):AA Kf->YV T->YV T
 |[],Q=>Q
 |.seq c::k,Q=>Zc X P h0 N c (MY X P h0 N k Q)
 |.blo id::k,Q=>Td id (MY X P h0 N k Q)
 |.unr c::k,Q=>λ_ _ _ _=>False
@[reducible] def R6(X:FS T)(P:AK)(h0 N:Nat):Cf->AA Kf->Env->Qc->HE T->YV T->Prop
 |.code c,k,env,H,st,Q=>Cs X P h0 N c env H st (MY X P h0 N k Q)
 |.ops all l,k,env,H,st,Q=>F8 X P h0 N all l env H st (MY X P h0 N k Q)
 |.out x,k,env,H,st,Q=>MY X P h0 N k Q x env H st
def oo:Cf->AA Kf->Bool
 |.code (.loop _),_=>AD
 |.out _,.unr _::_=>AD
 |_,_=>AE
theorem ye{Tx:Fb}(i:IA P Tx){c d:Cf}{k f:AA Kf}{H':Qc}(h:T7 Tx h0 N c k env H=AC (d,f,env',H'))(a:oo c k=AE)(g:R6 X P h0 N d f env' H' st Q):R6 X P h0 N c k env H st Q:=by
 unfold T7 at h;split at h
 .cases h;exact Cs.seq g
 .cases h;exact Cs.block g
 .cases a
 .cases h;exact Cs.skip g
 .cases h;exact Cs.ret g
 .cases h;exact Cs.exit g
 .cases h;exact Cs.region g
 .grind[Cs.cond,QU]
 .cases h;exact F8.nil g
 .split at h
  .rename_i q;cases h;exact F8.step (lN i q (WO.nil ⟨rfl,g⟩))
  .cases h
 .cases h;exact g
 .cases h;exact g
 .cases h;exact g
 .cases h;exact g
 .split at h
  .rename_i q;have e:=XR q;show(bif Nat.beq _ _ then _ else _)
   grind
  .show(bif Nat.beq _ _ then _ else _)
   grind
 .cases h;exact g
 .cases a
 .cases a
 .cases a
 .cases h
def Tt(Tx:Fb)(h0 N:Nat):Nat->Cf->AA Kf->Env->Qc->AB (Cf×AA Kf×Env×Qc)
 |0,c,k,env,H=>AC (c,k,env,H)
 |n+1,c,k,env,H=>match oo c k with
  |true=>(match T7 Tx h0 N c k env H with
   |some (c',k',env',H')=>Tt Tx h0 N n c' k' env' H'
   |none=>AF)
  |false=>AF
theorem e_{Tx:Fb}(hT:IA P Tx):∀(n:Nat) {c c':Cf} {k k':AA Kf} {env env':Env} {H H':Qc},Tt Tx h0 N n c k env H=AC (c',k',env',H')->R6 X P h0 N c' k' env' H' st Q->R6 X P h0 N c k env H st Q
 |0,c,c',k,k',env,env',H,H',h,g=>by cases h;exact g
 |n+1,c,c',k,k',env,env',H,H',h,g=>by
  unfold Tt at h;split at h
  .rename_i hn;split at h
   .rename_i e;exact ye hT e hn (e_ hT n h g)
   .cases h
  .cases h
theorem Cs.lf{k:AA Kf}(h:TC P h0 N c env H (λx env H=>MY X P h0 N k Q x env H st)):Cs X P h0 N c env H st (MY X P h0 N k Q):=Cs.lift h
theorem vJ{all:Array AM}{r:AA AM}{x:T}{l:AA T}{e:T->A}{y z:Operand}{j:Array TypeId}(hE:X.enc=λx=>[e x])(i:X.nx=Ti)(h:o.op=.call {callee:=.value y,args:= #[z],argTypes:=j})(a:Bu env y=.fn (.yield X.l) [] [])(f:Bu env z=e x)(g:YH (e x)=AE)
  (m:F8 X P h0 N all r (up env d (.bool AE)) H (.on l) Q)(k:F8 X P h0 N all r (up env d (.bool AD)) H (.off l) Q)(hg:QE all o env true:=by rfl)(hd:o.dst=AC d:=by rfl)(hNd:Nat.blt d N=true:=by rfl):F8 X P h0 N all (o::r) env H (.on (x::l)) Q:=by
 refine F8.yield (by rw[i];rfl) hg hd hNd ?_ ?_
 .rw[hE];exact ym h a f g
 grind
theorem F8.y2{all:Array AM}{r:AA AM}{x:T}{l:AA T}{a h:T->A}{y j k:Operand}{q:Array TypeId}(hE:X.enc=λx=>[a x,h x])(p:X.nx=Ti)(n:o.op=.call {callee:=.value y,args:= #[j,k],argTypes:=q})(m:Bu env y=.fn (.yield X.l) [] [])(i:Bu env j=a x)(f:Bu env k=h x)(g:YH (a x)=AE)(e:YH (h x)=AE)
  (t:F8 X P h0 N all r (up env d (.bool AE)) H (.on l) Q)(s:F8 X P h0 N all r (up env d (.bool AD)) H (.off l) Q)(hg:QE all o env true:=by rfl)(hd:o.dst=AC d:=by rfl)(hNd:Nat.blt d N=true:=by rfl):F8 X P h0 N all (o::r) env H (.on (x::l)) Q:=by
 refine F8.yield (by rw[p];rfl) hg hd hNd ?_ ?_
 .rw[hE];exact zD n m i f g e
 grind
end
variable {R:Type}
def yl(x:T)(k:AB (AA T×R)):AB (AA T×R):=k.bind λp=>AC (x::p.1,p.2)
def ap(a:AB (AA T×B))(k:B->AB (AA T×R)):AB (AA T×R):=a.bind λp=>(k p.2).bind λq=>AC (p.1++q.1,q.2)
theorem U5{T R:Type}{x:T}{k:AB (AA T×R)}{a:AA T}{v:R}(h:yl x k=AC (a,v)):∃zs,k=AC (zs,v)/\a=x::zs:=by
 obtain⟨⟨zs,f⟩,d,e⟩:=Q7 h
 grind
theorem Zb{T B R:Type}{a:AB (AA T×B)}{k:B->AB (AA T×R)}{d:AA T}{v:R}(h:ap a k=AC (d,v)):∃y1 b y2,a=AC (y1,b)/\k b=AC (y2,v)/\d=y1++y2:=by
 obtain⟨⟨y1,b⟩,j,e⟩:=Q7 h;obtain⟨⟨y2,i⟩,g,f⟩:=Q7 e
 grind
section
variable {T:Type} {X:FS T} {P:AK} {h0 N:Nat} {c c':Code} {env:Env} {H:Qc} {st:HE T} {Q:YV T}
def kv(h0:Nat)(b:β)(E':β->Env)(H':β->Qc)(rem:AA T)(Q:YV T):YV T
 |.normal,env,H,st=>Le h0 env H (E' b) (H' b)/\st=.on rem
 |.exit id,env,H,st=>Q (.exit id) env H st
 |.ret,env,H,st=>Q .ret env H st
theorem wp(b:β)(rem:AA T)(sel keep:AA Nat)(nE:β->Env)(nH:β->AA (Nat×B8))(_:∀b,Rd sel keep (nE b) (nH b) env H=AC (E' b,H' b))(h:Cs X P h0 N c env H st (kv h0 b E' H' rem Q))(k:∀env H,Le h0 env H (E' b) (H' b)->Q .normal env H (.on rem)):Cs X P h0 N c env H st Q:=
 h.mono λx env' H' st' q=>by
  cases x with
  |normal=>obtain⟨q1,rfl⟩:=q;grind
  |exit id=>exact q
  |ret=>exact q
theorem ZT{b:β}{rem:AA T}(h:Le h0 env H (E' b) (H' b)):kv h0 b E' H' rem Q .normal env H (.on rem):=⟨h,rfl⟩
theorem ZS{b:β}{rem:AA T}(h:Q .ret env H st):kv h0 b E' H' rem Q .ret env H st:=h
theorem vG{B:Type}{step:S->AB (AA T×Bn S B)}{E':S->Env}{H':S->Qc}{m:Nat}{s0:S}{ys rem:AA T}{b:B}(sel keep:AA Nat)(nE:S->Env)(nH:S->AA (Nat×B8))(h:ME step m s0=AC (ys,b))(_:∀s,Rd sel keep (nE s) (nH s) env H=AC (E' s,H' s))(hI:Le h0 env H (E' s0) (H' s0))
  (body:∀s zs d rest,step s=AC (zs,d)->(∀b',d=.d b'->b'=b/\rest=rem)->Cs X P h0 N c (E' s) (H' s) (.on (zs++rest)) (Zz h0 E' H' d rest Q)):Cs X P h0 N (.loop c) env H (.on (ys++rem)) Q:=yR h hI body
theorem uk{S B:Type}{E':S->Env}{H':S->Qc}{s:S}{d:Bn S B}{zs rest:AA T}(e:AC ([],Bn.k s)=AC (zs,d))(h:Le h0 env H (E' s) (H' s)):Zz h0 E' H' d rest Q .normal env H (.on (zs++rest)):=by
 cases e;exact⟨s,rfl,h,rfl⟩
theorem um{S B:Type}{E':S->Env}{H':S->Qc}{d:Bn S B}{rest:AA T}(h:Q (.exit id) env H st):Zz h0 E' H' d rest Q (.exit id) env H st:=h
theorem ul{S B:Type}{E':S->Env}{H':S->Qc}{d:Bn S B}{rest:AA T}(h:Q .ret env H st):Zz h0 E' H' d rest Q .ret env H st:=h
theorem Oy{S B:Type}{d:Bn S B}{x b:B}{zs rest rem:AA T}(a:∀b',d=.d b'->b'=b/\rest=rem)(h:AC ([],Bn.d x)=AC (zs,d)):zs=[]/\b=x/\rest=rem:=by
 grind
theorem QjZ{f:FuncId}{c:Code}{N:Nat}{a:AA A}{enc:T->AA A}{xs:AA T}(g:P.funcs[f]?=AC fn)(d:fn.body=AC c)(i:fn.ntmps=N)(j:Nat.ble (a.length+1) N=AE)(e:fn.results= #[])
  (h:∀X,X.enc=enc->X.nx=Ti->Cs X P H.length N c (PS 0 (.fn (.yield X.l) [] []::a)) H (.on (xs++[])) cm):Zg P f a H enc Ti xs:=by
 grind[QiE]
end
open Go.MapKept
section
variable {fr ro:Nat->Prop} {σ:CD} {H:Qc} {w:AJ}
end
end Go.Sw
namespace Go.Sw
open Option renaming some→AC,none→AF
open Bool renaming false→AD,true→AE
open Decidable renaming decide→AG
open Go renaming World→AJ,Program→AK,Value→AL,Oper→AM
open Go.MapKept
def HY{α β:Type}(ek:α->A)(ev:β->AA A)(l:AA (α×AB (AA β))):AA (A×AB (AA (AA A))):=l.map λp=>(ek p.1,p.2.map (List.map ev))
def d5{α β:Type}[DecidableEq α](l:AA (α×AB (AA β)))(x:α):AA (α×AB (AA β)):=l.map λp=>bif p.1=x then(p.1,AF)else p
section
variable {P:AK} {kt:TypeId} {α β:Type} [DecidableEq α] {ek:α->A} {ev:β->AA A} {ro:Nat->Prop} {w:AJ} {t k:Nat} (K:FQ P kt ek)
include K
theorem pi{x:α}:∀{l:AA (α×AB (AA β))} {es:AA MapEntry},MO ro w t k (HY ek ev l) es->MO ro w t k (HY ek ev (d5 l x)) es
 |[],es,h=>h
 |p::l,es,h=>by
  obtain⟨e,l',rfl,h1,h2,h3⟩:=h;by_cases q:p.1=x
  .refine⟨e,l',rfl,by grind,λrows hr=>?_,pi h3⟩
   grind
  .refine⟨e,l',rfl,by grind,(by grind),pi h3⟩
omit K
theorem mr{x:α}{c:Nat}:∀{l:AA (α×AB (AA β))} {es:AA MapEntry},KS (HY ek ev (d5 l x)) es c->KS (HY ek ev l) es c
 |[],es,h=>by cases es<;>exact h.elim
 |p::l,[],h=>h.elim
 |p::l,e::es,h=>by
  rcases h with⟨h1,h2⟩|h
  .by_cases q:p.1=x
   .grind
   .exact .inl ⟨by grind,h2⟩
  .exact .inr (mr h)
theorem x8{x:α}:∀{l:AA (α×AB (AA β))} {es:AA MapEntry},RX (HY ek ev l) es->RX (HY ek ev (d5 l x)) es
 |[],es,h=>by cases es<;>trivial
 |p::l,[],h=>trivial
 |p::l,e::es,h=>by
  obtain⟨h1,h2⟩:=h;refine⟨λc q1 q2 q3=>?_,x8 h2⟩;by_cases q:p.1=x
  .grind
  .exact h1 c (by grind) q2 (mr q3)
include K
theorem MO.find:∀{l:AA (α×AB (AA β))} {es:AA MapEntry},MO ro w t k (HY ek ev l) es->∀(x:α),(es.map (·.key)).Nodup->
  ((∀e:MapEntry,e∈es->e.key≠QY (ek x))->Je l x=AF)/\
  (∀(j:Nat) (e:MapEntry),es[j]?=AC e->e.key=QY (ek x)->∃q,Je l x=AC q/\(∀rows,q=AC rows->SO ro w t k (rows.map ev) e.val)/\
   ∀c p n cap,q.isSome=AE->e.val=.slice (AC ⟨c,p,AF⟩) n cap->KS (HY ek ev l) es c/\(RX (HY ek ev l) es->¬KS (HY ek ev (d5 l x)) es c))
 |[],es,h,x,_=>by
  cases(show es=[]from h);exact⟨λ_=>rfl,(by simp)⟩
 |p::l,es,h,x,hn=>by
  obtain⟨e0,l',rfl,h1,h2,h3⟩:=h;have hk:=VR.val (K.scl _) h1;simp only[Vk,List.nodup_cons]at hn;obtain⟨a1,a2⟩:=MO.find (l:=l) h3 x hn.2;by_cases hp:p.1=x
  .subst hp;constructor
   .grind
   .intro j e he hx;cases j with
    |zero=>
     simp only[XF,Option.some.injEq]at he;subst he;refine⟨p.2,by simp[Je],(by grind),λc p' n cap hs hv=>⟨.inl (by grind),λhd hq=>?_⟩⟩;rcases hq with⟨q1,_⟩|hq
     .simp at q1
     .exact hd.1 c (by grind) ⟨p',n,cap,hv⟩ (mr (l:=l) hq)
    |succ j=>
     grind
  .have e1:Je (p::l) x=Je l x:=by simp[Je,hp]
   rw[e1];constructor
   .grind
   .intro j e he hx;cases j with
    |zero=>
     simp only[XF,Option.some.injEq]at he;subst he;exact absurd (K.inj _ _ (hk.symm.trans hx)) hp
    |succ j=>
     obtain⟨q,d,m,i⟩:=a2 j e (by grind) hx;refine⟨q,d,m,λc p' n cap hs hv=>?_⟩;obtain⟨a,g⟩:=i c p' n cap hs hv;refine⟨.inr a,λhd hq=>?_⟩;rcases hq with⟨q1,f⟩|hq
     .exact hd.1 c (by grind) f a
     .exact g hd.2 hq
end
section
variable {P:AK} {o:AM} {env:Env} {H:Qc}
variable {T kt et:Nat} {α β:Type} [DecidableEq α] {ek:α->A} {ev:β->AA A} {x y:Operand} {i t k:Nat} {l:AA (α×AB (AA β))} {key:α} {rows:AA β}
end
end Go.Sw
namespace Go.Sw
open Option renaming some→AC,none→AF
open Bool renaming false→AD,true→AE
open Decidable renaming decide→AG
open Go renaming World→AJ,Program→AK,Value→AL,Oper→AM
open Go.MapKept
theorem MO.append{ro:Nat->Prop}{w:AJ}{t k:Nat}:∀{l m:AA (A×AB (AA (AA A)))} {es fs:AA MapEntry},MO ro w t k l es->MO ro w t k m fs->MO ro w t k (l++m) (es++fs)
 |[],m,es,fs,h,q=>by cases(show es=[]from h);exact q
 |p::l,m,es,fs,h,q=>by
  obtain⟨e,l',rfl,h1,h2,h3⟩:=h;exact⟨e,l'++fs,rfl,h1,h2,MO.append h3 q⟩
theorem MO.length{ro:Nat->Prop}{w:AJ}{t k:Nat}:∀{l:AA (A×AB (AA (AA A)))} {es:AA MapEntry},MO ro w t k l es->es.length=l.length
 |[],es,h=>by cases(show es=[]from h);rfl
 |p::l,es,h=>by
  obtain⟨e,l',rfl,h1,h2,h3⟩:=h;simp[MO.length h3]
def og(v:AL)(c:Nat):Prop:=∃p n cap,v=.slice (AC ⟨c,p,AF⟩) n cap
section
variable {P:AK} {kt:TypeId} {α β:Type} [DecidableEq α] {ek:α->A} {ev:β->AA A} {ro:Nat->Prop} {w:AJ} {t k:Nat} (K:FQ P kt ek)
def JY{α β:Type}[DecidableEq α](l:AA (α×AB (AA β)))(x:α)(rows:AA β):AA (α×AB (AA β)):=l.map λp=>bif p.1=x then(p.1,AC rows)else p
include K
theorem sH{x:α}{rows:AA β}:∀{l:AA (α×AB (AA β))} {es:AA MapEntry},MO ro w t k (HY ek ev l) es->(∀e∈es,e.key≠QY (ek x))->JY l x rows=l
 |[],es,h,q=>rfl
 |p::l,es,h,q=>by
  obtain⟨e,l',rfl,h1,h2,h3⟩:=h;have hk:=VR.val (K.scl _) h1;have hp:p.1≠x:=(by grind);have:=sH h3 (λe he=>q e (by simp[he])) (rows:=rows)
  simp_all[JY]
theorem MO.put{x:α}{rows:AA β}{v:AL}(r:SO ro w t k (rows.map ev) v):∀{l:AA (α×AB (AA β))} {es:AA MapEntry} {j:Nat} {e:MapEntry},MO ro w t k (HY ek ev l) es->
  (es.map (·.key)).Nodup->es[j]?=AC e->e.key=QY (ek x)->
  MO ro w t k (HY ek ev (JY l x rows)) (es.modify j λe=>{e with key:=QY (ek x),val:=v})/\
  (∀c,KS (HY ek ev (JY l x rows)) (es.modify j λe=>{e with key:=QY (ek x),val:=v}) c->KS (HY ek ev l) es c\/og v c)/\
  (RX (HY ek ev l) es->(∀c,KS (HY ek ev l) es c->¬og v c)->RX (HY ek ev (JY l x rows)) (es.modify j λe=>{e with key:=QY (ek x),val:=v}))
 |[],es,j,e,h,hn,he,hk=>by cases(show es=[]from h);simp at he
 |p::l,es,j,e,h,hn,he,hk=>by
  obtain⟨e0,l',rfl,h1,h2,h3⟩:=h;have hk0:=VR.val (K.scl _) h1;simp only[Vk,List.nodup_cons]at hn;cases j with
  |zero=>
   simp[XF,Option.some.injEq]at he;subst he;have hp:=K.inj _ _ (hk0.symm.trans hk);have e0':JY l x rows=l:=sH K h3 λe he z=>hn.1 (by rw[hk, <- z];exact VG he);have e1:JY (p::l) x rows=(p.1,AC rows)::l:=by
    have:JY (p::l) x rows=(p.1,AC rows)::JY l x rows:=by simp[JY,hp]
    rw[this,e0']
   rw[e1];refine⟨⟨_,l',rfl,?_,?_,h3⟩,?_,?_⟩
   .rw[<- hp];exact fQ (K.scl _)
   .intro f B;cases B;exact r
   .rintro c (⟨_,q⟩|q)
    .exact .inr q
    .exact .inl (.inr q)
   .rintro⟨g,d⟩ a;exact⟨λc _ q z=>a c (.inr z) q,d⟩
  |succ j=>
   have hp:p.1≠x:=by
    intro q;refine hn.1 (Xe.2 ⟨e,VH he,?_⟩);rw[hk,hk0,q]
   obtain⟨y,i,u⟩:=MO.put r h3 hn.2 he hk;have e1:JY (p::l) x rows=p::JY l x rows:=by simp[JY,hp]
   rw[e1];refine⟨⟨_,_,rfl,h1,h2,y⟩,?_,?_⟩
   .rintro c (q|q)
    .exact .inl (.inl q)
    .exact(i c q).imp .inr id
   .rintro⟨g,d⟩ a;refine⟨λc m n z=>?_,u d λc s=>a c (.inr s)⟩;rcases i c z with z|z
    .exact g c m n z
    .exact a c (.inl ⟨m,n⟩) z
end
section
variable {P:AK} {o:AM} {env:Env} {H:Qc}
variable {T kt et:Nat} {α β:Type} [DecidableEq α] {ek:α->A} {ev:β->AA A} {x y zz:Operand} {i j t k n:Nat} {l m:AA (α×AB (AA β))} {key:α} {rows:AA β}
end
end Go.Sw
namespace Go.Sw
open Option renaming some→AC,none→AF
open Bool renaming false→AD,true→AE
open Decidable renaming decide→AG
open Go renaming World→AJ,Program→AK,Value→AL,Oper→AM
open Go.MapKept
section
variable {fr ro:Nat->Prop} {σ:CD} {H:Qc} {w:AJ}
theorem MO.er{t k:Nat}:∀{es:AA (A×AB (AA (AA A)))} {l:AA MapEntry},MO ro w t k es l->ER ro [] w (es.map λe=>(e.1,.any)) l
 |[],_,h=>h
 |x::r,_,⟨e,l',h1,h2,h3,h4⟩=>⟨e,l',h1,h2,trivial,MO.er h4⟩
end
section
variable {P:AK} {o:AM} {env:Env} {H:Qc} {T kt et i t k:Nat} {x:Operand} {es:AA (A×AB (AA (AA A)))}
end
section
variable {P:AK} {o:AM} {env:Env} {H:Qc}
variable {T kt et:Nat} {α β:Type} [DecidableEq α] {ek:α->A} {ev:β->AA A} {x y zz:Operand} {i j t k n:Nat} {l m:AA (α×AB (AA β))} {key:α} {rows:AA β}
end
end Go.Sw
namespace Go.Sw
open Option renaming some→AC,none→AF
open Bool renaming false→AD,true→AE
open Decidable renaming decide→AG
open Go renaming World→AJ,Program→AK,Value→AL,Oper→AM
open Go.MapKept
section
variable {P:AK} {o:AM} {env:Env} {H:Qc}
variable {T kt et:Nat} {α β:Type} [DecidableEq α] {ek:α->A} {ev:β->AA A} {x y zz:Operand} {i j t k n:Nat} {l m:AA (α×AB (AA β))} {key:α} {rows:AA β}
end
end Go.Sw
namespace Go.Sw
open Option renaming some→AC,none→AF
open Bool renaming false→AD,true→AE
open Decidable renaming decide→AG
open Go renaming World→AJ,Program→AK,Value→AL,Oper→AM
abbrev MK:=AA (Nat×Nat×Nat)
def Zn:Nat->Nat->AA (Nat×Nat)
 |lo,0=>[(lo,lo)]
 |lo,n+1=>(lo,lo)::Zn (lo+1) n
def oT(p:Nat×Nat×Nat):AA (Nat×Nat):=bif Nat.beq p.1 1 then[(p.2.1,p.2.1+1)]else Zn p.2.1 (p.2.2-p.2.1)
def O3(cat:MK):AA (AA (Nat×Nat)):=cat.map oT
def oR(bs:AA Nat)(cat:MK):AA (AA Nat):=cat.map λp=>bs.take p.2.1
def oY(cat:MK):AA Bool:=cat.map λp=>Nat.beq p.1 1
def dK(bs:AA Nat):AA (AA Nat):=(List.range (bs.length+1)).map bs.take
theorem fF:∀(n lo:Nat),∀p∈Zn lo n,p.1=p.2
 |0,lo,p,h=>by cases h with|head=>rfl|tail _ h=>cases h
 |n+1,lo,p,h=>by
  rcases X7.1 h with rfl|h
  .rfl
  .exact fF n _ p h
variable {Zs:AA Qc}{hi t:Nat}
section
variable {P:AK} {T:Fb} {h0 N m:Nat} {bs:AA Nat} {cat:MK} {l:AA AM} {ds:AA Nat} {env:Env} {H:Qc} {Hs:AA Qc} {Q:QP} {K:AA AM->Env->Qc->Prop}
def Ol(P:AK)(N:Nat)(cat:MK)(l:AA AM)(ds:AA Nat)(env:Env)(n:Nat)(Hs:AA Qc)(zs:AA A)(j:Nat):Prop:=
 ∀p∈(O3 cat).getD j [],JB P N l ds zs env n n j (Hs.getD p.1 []) (Hs.getD p.2 [])
def Zp:AA (Nat×AB B8)->Qc->Prop
 |[],_=>True
 |p::r,Z=>Z[p.1]?=p.2/\Zp r Z
def DK(P:AK)(N m:Nat)(bs:AA Nat)(cat:MK)(l:AA AM)(ds:AA Nat)(env:Env)(n:Nat)(K:AA AM->Env->Qc->Prop)(B:AA (Nat×AB B8))(Hs:AA Qc)(X:Qc)(r:AA AM)(xs:AA A):Prop:=
 r=l.drop xs.length->∃ys Zs Y,xs.length+ys.length=m/\Hs.length+Zs.length=bs.length/\((∀Z∈Zs,n<=Z.length)/\(Hs.reverse++X::Zs).getD bs.length []=Y/\ ∀Z∈Zs,Zp B Z)/\(∀j,xs.length<=j->j<m->Ol P N cat l ds env n (Hs.reverse++X::Zs) (xs++ys) j)/\K (l.drop m) (H_ ds (xs++ys) env) Y
theorem vD{d:AA A}{n:Nat}(f:cat.length=m)(k:∀j,0<=j->j<m->Ol P N cat l ds env n Zs d j):B7 P N l ds d env n (n+0) 0 ((O3 cat).map λq=>q.map λp=>(Zs.getD p.1 [],Zs.getD p.2 [])):=by
 refine lw _ 0 λi s a p g=>?_;rw[Xp]at a;cases e:(O3 cat)[i]? with
 |none=>grind
 |some q=>
  rw[e]at a;cases a;obtain⟨h,r,rfl⟩:=Xe.1 g;have t:i<m:=by
   grind[O3]
  have:=k i (XV _) t h (by grind)
  grind
theorem xC{id:Nat}(m:Nat)(d:AA Nat)(cat:MK)(n:P.follows .mixedOrders=AE)(q:G4 l m N (J0 m 0 l) (oY cat) (oR d cat) (dK d) (O3 cat)=AE)(g:Nat.beq cat.length m=AE)(f:Nat.ble h0 H.length=AE)
  (h:DK P N m d cat l (J0 m 0 l) env H.length (λr e H=>WO P h0 N l.toArray r e H Q) [] [] H l []):TC P h0 N (.region id l.toArray AE) env H Q:=by
 obtain⟨j,Zs,Y,u,t,s,k,p⟩:=h rfl;have a:=XR g;have i:(dK d).length=d.length+1:=by simp[dK]
 refine Jf m 0 _ _ _ _ _ j (H::Zs) Y n q (by grind) (by simp_all) f ?_ (by simp) (by grind) (vD a k) (by simp[O3,a]) p
 simp_all
variable {n:Nat} {X X1:Qc} {B:AA (Nat×AB B8)} {xs:AA A} {o:AM} {r:AA AM} {x:A} {d:Nat}
theorem DK.done(a:Nat.beq xs.length m=AE)(d:Nat.beq Hs.length bs.length=AE)(h:K r (H_ ds xs env) X):DK P N m bs cat l ds env n K B Hs X r xs:=by
 intro k;have e:=XR a;have f:=XR d;refine⟨[],[],X,by simpa using e,by omega,⟨(λZ hZ=>by cases hZ),?_,λZ hZ=>by cases hZ⟩,λj g i=>by omega,?_⟩
 .grind
 grind
theorem DK.add(p:∀ys Zs,Hs.length+Zs.length=bs.length->(∀Z∈Zs,Zp B Z)->l[xs.length]?=AC o->Ol P N cat l ds env n (Hs.reverse++X::Zs) (xs++x::ys) xs.length)(k:DK P N m bs cat l ds env n K B Hs X r (xs++[x])):DK P N m bs cat l ds env n K B Hs X (o::r) xs:=by
 intro i;obtain⟨t,e⟩:=UW i;obtain⟨ys,Zs,Y,h,g,f,d,a⟩:=k (by grind);simp[Vj,Vi]at h d a;refine⟨x::ys,Zs,Y,by grind,g,f,λj q s=>?_,a⟩
 grind
theorem UL{zs:AA A}{j:Nat}{c:Nat×Nat×Nat}(a:YW cat j=AC c)(h:∀p∈oT c,JB P N l ds zs env n n j (Zs.getD p.1 []) (Zs.getD p.2 [])):Ol P N cat l ds env n Zs zs j:=by
 intro p d
 grind[MG,O3]
theorem vy{c:Nat}(a:Nat.beq c Hs.length=AE):(Hs.reverse++X::Zs).getD c []=X:=by
 simp_all
theorem DK.wo{c:Nat}(h:WO P X.length N l.toArray [o] (Yc (Qh o) 0 ds xs env) X (Y0 (up (Yc (Qh o) 0 ds xs env) d x) X))(k:DK P N m bs cat l ds env n K B Hs X r (xs++[x]))
  (e:YW cat xs.length=AC (0,c,c):=by rfl)(hd:o.dst=AC d:=by rfl)(hcH:Nat.beq c Hs.length=true:=by rfl):DK P N m bs cat l ds env n K B Hs X (o::r) xs:=
 .add (λys Zs hn hf ho=>UL e λp a=>by
  have:=by
   change p∈Zn c (c-c)at a;rw[Nat.sub_self]at a;exact VB.1 a
  grind[vy,MH,YY]) k
theorem DK.wa{lo:Nat}(h:∀X,WO P X.length N l.toArray [o] (Yc (Qh o) 0 ds xs env) X (Y0 (up (Yc (Qh o) 0 ds xs env) d x) X))(k:DK P N m bs cat l ds env n K B Hs X r (xs++[x]))
  (a:YW cat xs.length=AC (0,lo,hi):=by rfl)(hd:o.dst=AC d:=by rfl):DK P N m bs cat l ds env n K B Hs X (o::r) xs:=
 .add (λys Zs hn hf ho=>UL a λp f=>by
  have e:=fF _ _ p f
  grind[MH,YY]) k
theorem DK.op{c u:Nat}(h:WO P X.length N l.toArray [o] (Yc (Qh o) 0 ds xs env) X (Y0 (up (Yc (Qh o) 0 ds xs env) d x) X1))(k:DK P N m bs cat l ds env n K B (X::Hs) X1 r (xs++[x]))(G:Nat.ble n X1.length=true:=by rfl)
  (hc:YW cat xs.length=AC (1,c,u):=by rfl)(hd:o.dst=AC d:=by rfl)(hcH:Nat.beq c Hs.length=true:=by rfl)(hB:Zp B X1:=by repeat (first|exact trivial|refine⟨rfl,?_⟩)):DK P N m bs cat l ds env n K B Hs X (o::r) xs:=by
 intro z;obtain⟨H,t⟩:=UW z;obtain⟨i,Zs,Y,y,w,e,s,f⟩:=k (by grind);simp only[X4,X2,List.length_nil,Vj,VK,Vi,List.reverse_cons]at y w e s f;refine⟨x::i,X1::Zs,Y,by grind,by grind,⟨λZ a=>?_,e.2.1,?_⟩,λj E F=>?_,f⟩
 .rcases X7.1 a with rfl|a
  .simp_all
  grind
 .intro Z a;rcases X7.1 a with rfl|a
  .exact hB
  .exact e.2.2 Z a
 .rcases VC xs.length j with q|q
  .grind
  .obtain rfl:j=xs.length:=by omega
   refine UL hc λp g=>?_;have:p=(c,c+1):=VB.1 g
   grind[Nat.eq_of_beq_eq_true,MH,YY]
theorem xL{hB hE:Nat}{xs a:AA A}{o:AM}{X X':Qc}(d:l[xs.length]?=AC o)(hdd:JS hB hE X X'=AE)(h:WO P X.length N l.toArray [o] (Yc (Qh o) 0 ds xs env) X (Y0 (Yc (Qh o) 0 ds xs env) X'))(e:o.dst=AF):
  JB P N l ds (xs++.any::a) env hB hE xs.length X X':=
 .unitE o _ d e mn (he:=by
  intro s;rcases lg (af:=Qh o) (env0:=env) (s:=s) ds xs (.any::a) 0 with⟨j,y,g,i,f,k⟩|q|q
  .grind
  .grind
  grind) (hdd:=hdd) (h:=h)
theorem DK.un{c:Nat}(h:WO P X.length N l.toArray [o] (Yc (Qh o) 0 ds xs env) X (Y0 (Yc (Qh o) 0 ds xs env) X1))(k:DK P N m bs cat l ds env n K B (X::Hs) X1 r (xs++[.any]))(E:Nat.ble n X1.length=true:=by rfl)
  (hc:YW cat xs.length=AC (1,c,t):=by rfl)(hd:o.dst=none:=by rfl)(hcH:Nat.beq c Hs.length=true:=by rfl)(hB:Zp B X1:=by repeat (first|exact trivial|refine⟨rfl,?_⟩)):DK P N m bs cat l ds env n K B Hs X (o::r) xs:=by
 intro x;obtain⟨F,s⟩:=UW x;obtain⟨g,Zs,Y,w,u,d,i,e⟩:=k (by grind);simp only[X4,X2,List.length_nil,Vj,VK,Vi,List.reverse_cons]at w u d i e;refine⟨.any::g,X1::Zs,Y,by grind,by grind,⟨λZ a=>?_,d.2.1,?_⟩,λj y z=>?_,e⟩
 .rcases X7.1 a with rfl|a
  .simp_all
  grind
 .intro Z a;rcases X7.1 a with rfl|a
  .exact hB
  .exact d.2.2 Z a
 .rcases VC xs.length j with q|q
  .grind
  .obtain rfl:j=xs.length:=by omega
   refine UL hc λp f=>?_;have:p=(c,c+1):=VB.1 f
   grind[Nat.eq_of_beq_eq_true,xL,YY]
def Ri(T:Fb)(N m:Nat)(cat:MK)(l:AA AM)(ds:AA Nat)(env:Env)(n:Nat)(fl:Bool):Nat->Nat->Nat->AA Qc->Qc->AA AM->AA A->AB (AA Qc×AA AM×AA A)
 |0,_,_,Hs,X,r,xs=>AC (Hs,r,xs)
 |_+1,_,_,_,_,[],_=>AF
 |k+1,i,j,Hs,X,o::r,xs=>match o.dst with
  |none=>AF
  |some d=>match Nat.blt d N with
   |false=>AF
   |true=>match YX ⟨l⟩ o (Yc (Qh o) 0 ds xs env)with
    |none=>AF
    |some AD=>(match Iw xs (.tup [])with
      |.mk xs'=>match YW cat i with
       |some (0,_,_)=>Ri T N m cat l ds env n fl k (i+1) j Hs X r xs'
       |some (1,c,_)=>(match fl&&Nat.beq c j,Nat.ble n X.length with
        |true,AE=>Ri T N m cat l ds env n fl k (i+1) (j+1) (X::Hs) X r xs'
        |_,_=>AF)
       |_=>AF)
    |some AE=>match YW cat i with
     |some (0,lo,hi)=>(match HZ T o (Yc (Qh o) 0 ds xs env) []with
      |some x=>(match Iw xs x with
       |.mk xs'=>Ri T N m cat l ds env n fl k (i+1) j Hs X r xs')
      |none=>match Nat.beq lo hi,Nat.beq lo j with
       |true,AE=>(match HZ T o (Yc (Qh o) 0 ds xs env) X with
        |none=>AF
        |some x=>match Iw xs x with
         |.mk xs'=>Ri T N m cat l ds env n fl k (i+1) j Hs X r xs')
       |_,_=>AF)
     |_=>AF
theorem aT(hT:IA P T){fl:Bool}(hfl:fl=AE->B=[]):∀(k i j:Nat) {Hs Hs':AA Qc} {r r':AA AM} {xs xs':AA A},i=xs.length->j=Hs.length->Ri T N m cat l ds env n fl k i j Hs X r xs=AC (Hs',r',xs')->DK P N m bs cat l ds env n K B Hs' X r' xs'->DK P N m bs cat l ds env n K B Hs X r xs
 |0,i,j,Hs,Hs',r,r',xs,xs',_,_,h,k=>by cases h;exact k
 |k0+1,i,j,Hs,Hs',[],r',xs,xs',_,_,h,k=>by cases h
 |k0+1,i,j,Hs,Hs',o::r,r',xs,xs',hi,hj,h,k=>by
  subst hi hj;unfold Ri at h;split at h
  .cases h
  .rename_i d hd;split at h
   .cases h
   .rename_i q2;split at h
    .cases h
    .rename_i hw;simp[JE]at h;split at h
     .rename_i lo hi' q0;exact .wa (λX=>WO.skip (QL hw) hd q2 (WO.nil Y0.mk)) (aT hT hfl k0 _ _ (by simp) rfl h k) q0 hd
     .rename_i c c' q0;split at h
      .rename_i q1 q3;rw[XX]at q1;exact .op (WO.skip (QL hw) hd q2 (WO.nil Y0.mk)) (aT hT hfl k0 _ _ (by simp) (by simp) h k) q3 q0 hd q1.2 (hfl q1.1▸trivial)
      .cases h
     .cases h
    .rename_i hw;split at h
     .rename_i lo hi' q0;split at h
      .rename_i x hv;simp[JE]at h;exact .wa (λX=>YJ (QL hw) hd q2 (MI hT (mV hv)) (WO.nil Y0.mk)) (aT hT hfl k0 _ _ (by simp) rfl h k) q0 hd
      .split at h
       .rename_i q1 q3;split at h
        .cases h
        .rename_i x hv;simp[JE]at h;obtain rfl:=XR q1;exact .wo (YJ (QL hw) hd q2 (MI hT hv) (WO.nil Y0.mk)) (aT hT hfl k0 _ _ (by simp) rfl h k) q0 hd q3
       .cases h
     .cases h
theorem dS{α:Type}{b:Bool}{p q:AB α}{v:α}{a d:AA A}(j:Nat)(h:(bif b then p else q)=AC v)(g:YW xs j=AC (.bool b))(f:Rb xs j (.bool AE)=.mk a)(i:Rb xs j (.bool AD)=.mk d)
  (t:b=AE->p=AC v->DK P N m bs cat l ds env n K B Hs X r a)(e:b=AD->q=AC v->DK P N m bs cat l ds env n K B Hs X r d):DK P N m bs cat l ds env n K B Hs X r xs:=by
 cases b with
 |true=>simp_all[aP]
 |false=>simp_all[aP]
theorem DK.v(h:Bz P o (Yc (Qh o) 0 ds xs env) X x)(k:DK P N m bs cat l ds env n K B Hs X r (xs++[x])){c:Nat}(hg:YX ⟨l⟩ o (Yc (Qh o) 0 ds xs env)=AC true:=by rfl)
  (hd:o.dst=AC d:=by rfl)(hN:Nat.blt d N=true:=by rfl)(hc:YW cat xs.length=AC (0,c,c):=by rfl)(hcH:Nat.beq c Hs.length=true:=by rfl):DK P N m bs cat l ds env n K B Hs X (o::r) xs:=
 .wo (YJ (QL hg) hd hN h (WO.nil Y0.mk)) k hc hd hcH
def Zl(T:Fb)(o:AM)(e:Env)(x:A):Nat->AA Qc->Prop
 |0,_=>True
 |k+1,Y::r=>HZ T o e Y=AC x/\Zl T o e x k r
 |_+1,[]=>False
theorem l5{T:Fb}{o:AM}{e:Env}{x:A}:∀{k:Nat} {r:AA Qc},Zl T o e x k r->∀j,j<k->HZ T o e (r.getD j [])=AC x
 |0,_,_,j,hj=>(by omega)
 |k+1,[],h,_,_=>h.elim
 |k+1,Y::r,h,0,_=>h.1
 |k+1,Y::r,h,j+1,hj=>by
  have:=l5 h.2 j (by omega)
  grind
theorem mA:∀(n lo:Nat),∀p∈Zn lo n,lo<=p.1/\p.1<=lo+n
 |0,lo,p,h=>by cases h with|head=>omega|tail _ h=>cases h
 |n+1,lo,p,h=>by
  rcases X7.1 h with rfl|h
  .omega
  .have:=mA n _ p h;omega
def RT(P:AK)(N:Nat)(l:AA AM)(o:AM)(e:Env)(d:Nat)(x:A):Nat->AA Qc->Prop
 |0,_=>True
 |k+1,Y::r=>WO P Y.length N l.toArray [o] e Y (Y0 (up e d x) Y)/\RT P N l o e d x k r
 |_+1,[]=>False
theorem qW{e:Env}:∀{k:Nat} {r:AA Qc},RT P N l o e d x k r->∀j,j<k->WO P (r.getD j []).length N l.toArray [o] e (r.getD j []) (Y0 (up e d x) (r.getD j []))
 |0,_,_,j,hj=>(by omega)
 |k+1,[],h,_,_=>h.elim
 |k+1,Y::r,h,0,_=>h.1
 |k+1,Y::r,h,j+1,hj=>by
  have:=qW h.2 j (by omega)
  grind
theorem Zu{lo:Nat}(h:RT P N l o (Yc (Qh o) 0 ds xs env) d x (hi+1-lo) (X::Hs))(k:DK P N m bs cat l ds env n K B Hs X r (xs++[x]))
  (i:YW cat xs.length=AC (0,lo,hi):=by rfl)(hd:o.dst=AC d:=by rfl)(hcH:Nat.beq hi Hs.length=true:=by rfl)(hle:Nat.ble lo hi=true:=by rfl):DK P N m bs cat l ds env n K B Hs X (o::r) xs:=
 .add (λys Zs hn hf ho=>UL i λp a=>by
  have e:=fF _ _ p a;have f:=XS hle;have hb:=mA (hi-lo) lo p a;have g:=XR hcH;rw[<- e];have j:=qW h (Hs.length-p.1) (by omega);have q:(Hs.reverse++X::Zs).getD p.1 []=(X::Hs).getD (Hs.length-p.1) []:=by
   grind
  rw[q];exact MH ho YY j hd) k
theorem DK.vs(i:IA P T){lo:Nat}(h:Zl T o (Yc (Qh o) 0 ds xs env) x (hi+1-lo) (X::Hs))(k:DK P N m bs cat l ds env n K B Hs X r (xs++[x]))
  (j:YW cat xs.length=AC (0,lo,hi))(f:o.dst=AC d)(e:Nat.beq hi Hs.length=AE)(hg:YX ⟨l⟩ o (Yc (Qh o) 0 ds xs env)=AC AE)(g:Nat.blt d N=AE)(a:Nat.ble lo hi=AE):DK P N m bs cat l ds env n K B Hs X (o::r) xs:=by
 refine Zu ?_ k j f e a;generalize hi+1-lo=c at h;generalize X::Hs=L at h
 induction c generalizing L with
 |zero=>trivial
 |succ c p=>
  cases L with
  |nil=>exact h.elim
  |cons Y L=>exact⟨YJ (QL hg) f g (MI i h.1) (WO.nil Y0.mk),p L h.2⟩
def dx(o:AM)(e:Env):AB Nat:=match o.op with
 |.load _ (.global _)=>AF
 |.load _ x=>match Cy e x with
  |.mk (.ptr b _)=>AC b
  |_=>AF
 |_=>AF
theorem zB{T:Fb}{e:Env}{b:Nat}{Y Z:Qc}(h:dx o e=AC b)(f:Z[b]?=Y[b]?):HZ T o e Z=HZ T o e Y:=by
 have d:∀{x:Operand} {a:Nat},Cy e x=.mk (.ptr b a)->MW Z (Cy e x)=MW Y (Cy e x):=λq=>by
  rw[q];simp only[MW,MG,f]
 unfold dx at h;unfold HZ;split at h
 .cases h
 .rename_i t x i j;split at h
  .rename_i k a q;cases h;rw[j];cases x with
   |global g=>exact absurd rfl (i g)
   |_=>simp only[d q]
  .cases h
 .cases h
theorem v_(O:IA P T){lo b:Nat}(W:dx o (Yc (Qh o) 0 ds xs env)=AC b)(h:Zl T o (Yc (Qh o) 0 ds xs env) x (Hs.length+1-lo) (X::Hs))(k:DK P N m bs cat l ds env n K ((b,X[b]?)::B) Hs X r (xs++[x]))
  (G:YW cat xs.length=AC (0,lo,hi))(y:o.dst=AC d)(a:Nat.ble lo Hs.length=AE)(f:Nat.ble hi bs.length=AE)(hg:YX ⟨l⟩ o (Yc (Qh o) 0 ds xs env)=AC AE)(R:Nat.blt d N=AE):DK P N m bs cat l ds env n K B Hs X (o::r) xs:=by
 have J:DK P N m bs cat l ds env n K ((b,X[b]?)::B) Hs X (o::r) xs:=.add (λw Zs hn hf ho=>UL G λp u=>by
  have e:=fF _ _ p u;have a:=XS a;have f:=XS f;have hb:=mA (hi-lo) lo p u;rw[<- e];have g:HZ T o (Yc (Qh o) 0 ds xs env) ((Hs.reverse++X::Zs).getD p.1 [])=AC x:=by
   rcases VC Hs.length p.1 with q|q
   .have Q:=l5 h 0 (by omega);obtain⟨j,hj⟩:∃j,p.1=Hs.length+1+j:=⟨p.1-Hs.length-1,by omega⟩;have t:(Hs.reverse++X::Zs).getD p.1 []=Zs.getD j []:=by grind
    have i:j<Zs.length:=by omega
    have L:=(hf Zs[j] (Ve i)).1;have M:Zs.getD j []=Zs[j]:=by grind
    rw[t,M,zB W L];exact Q
   .have g:=l5 h (Hs.length-p.1) (by omega);have t:(Hs.reverse++X::Zs).getD p.1 []=(X::Hs).getD (Hs.length-p.1) []:=by grind
    rw[t];exact g
  exact MH ho YY (YJ (QL hg) y R (MI O g) (WO.nil Y0.mk)) y) k
 intro H;obtain⟨w,Zs,Y,F,E,s,z,V⟩:=J H;exact⟨w,Zs,Y,F,E,⟨s.1,s.2.1,λZ hZ=>(s.2.2 Z hZ).2⟩,z,V⟩
end
def room(n:Int):AB Nat:=bif AG (0<n)&&AG (n<=4294967296)then AC n.toNat else AF
variable {T T' et:Nat}{y:Operand}{α:Type}
variable {e:α->AA A}{l l':AA α}
section
variable {P:AK} {o:AM} {env:Env} {H:Qc}
theorem oz{a i:Nat}{x x':B8}(hH:H[i]?=AC x)(e:x=x'):Le a env H env (H.set i x'):=by
 grind[List.set_getElem_self,Le.refl]
theorem RL.put{ro:Nat->Prop}{σ:CD}{w:AJ}{k:Nat}:∀{a:Nat} {es fs:AA (AA A)} {l m:AA AL},RL ro σ w k es l->a+fs.length<=es.length->Sw.allK k fs->LR ro σ w fs.flatten m->(∀v∈m,QB v)->
  RL ro σ w k (es.take a++fs++es.drop (a+fs.length)) (Sw.splice l (a*k) m)
 |0,es,[],l,m,h,hn,hk,hm,hp=>by
  obtain rfl:m=[]:=hm;simpa[Sw.splice]using h
 |0,[],f::fs,l,m,h,hn,hk,hm,hp=>by simp at hn
 |0,c::es,f::fs,l,m,⟨l1,l2,h1,h2,h3,h4⟩,hn,hk,hm,hp=>by
  subst h1;have hl1:=h3.1.length;have hml:=hm.length;rw[Vm,X4]at hml;have e1:m.take k++m.drop k=m:=XA _ _;have q1:LR ro σ w f (m.take k):=by have:=hm.take k;rwa [Vm,X8 (by rw[hk.1];omega),VI (by rw[hk.1];omega)]at this
  have q2:=by have:=hm.drop k;rwa [Vm,X9 (by rw[hk.1];omega),List.drop_of_length_le (by rw[hk.1];omega),Vi]at this
  have e:=RL.put (a:=0) h4 (by grind) hk.2 q2 (λv d=>hp v (List.mem_of_mem_drop d));simp only[List.take_zero,Vi,Xx,Nat.zero_mul,Sw.splice]at e⊢;refine⟨m.take k,m.drop k++l2.drop (m.drop k).length,?_,hk.1,⟨q1,λv d=>hp v (List.mem_of_mem_take d)⟩,by simp_all⟩;have g:k<=m.length:=by rw[hml,hk.1];omega
  rw[<- Vj,e1];congr 1
  grind[List.drop_length_add_append]
 |a+1,[],fs,l,m,h,hn,hk,hm,hp=>by simp at hn
 |a+1,c::es,fs,l,m,⟨l1,l2,h1,h2,h3,h4⟩,hn,hk,hm,hp=>by
  subst h1;have hl1:=h3.1.length;have e:=RL.put (a:=a) h4 (by simp at hn;omega) hk hm hp;refine⟨l1,Sw.splice l2 (a*k) m,?_,h2,h3,?_⟩
  .have e1:(a+1)*k=l1.length+a*k:=by rw[Xm];omega
   unfold Sw.splice;rw[e1,Vc,show l1.length+a*k+m.length=l1.length+(a*k+m.length)from by omega,Vb];simp
  .have i:a+1+fs.length=(a+fs.length)+1:=by omega
   simpa[i]using e
def PG(P:AK)(H:Qc)(x:A)(k:Nat)(es:AA (AA A)):Prop:=
 ∀fr ro σ w v,B9 fr ro σ H w->VR ro σ w x v->(∃a c,v=.slice a es.length c)/\
  ∀j,j<=es.length->allK k (es.take j)/\ ∃l,(Builtin.firstCells k j v).run P w=.ok l.toArray w/\LR ro [] w (es.take j).flatten l/\ ∀v∈l,QB v
theorem tS{fr ro:Nat->Prop}{σ:CD}{w:AJ}{k j b a n c:Nat}{es:AA (AA A)}(h:RR ro [] w b k es a)(m:j<=es.length):
  allK k (es.take j)/\ ∃l,(Builtin.firstCells k j (.slice (AC ⟨b,a,AF⟩) n c)).run P w=.ok l.toArray w/\LR ro [] w (es.take j).flatten l/\ ∀v∈l,QB v:=by
 obtain⟨f,g,d⟩:=(h.take j).flat;rw[Xz,XC m]at d;obtain⟨l,e,i⟩:=aO (c:=c) f d;exact⟨g,l,(e w rfl),i⟩
theorem nR{k n c:Nat}{a:AB Addr}{w:AJ}:(Builtin.firstCells k 0 (.slice a n c)).run P w=.ok #[] w:=by
 cases a<;>simp[go_sem]
theorem wF{k:Nat}:PG P H (.rsl k (l.map e)) k (l.map e):=by
 intro fr i σ w v s ⟨a,c,h1,h2,d⟩;subst h1;refine⟨⟨a,c,rfl⟩,λj g=>?_⟩;rcases d with d|⟨b,f,rfl,m,h⟩
 .obtain rfl:j=0:=by grind
  exact⟨trivial,[],nR,rfl,by simp⟩
 .exact tS (fr:=fr) (σ:=σ) h g
theorem PG.osl{i s n k t:Nat}{es a:AA (AA A)}(hH:H[i]?=AC (.row t k es))(he:(es.drop s).take n=a)(F:s+n<=es.length):PG P H (.osl i s n k) k a:=by
 intro fr E σ w v sm h;have B:a.length=n:=by grind
 rcases h with⟨rfl,rfl⟩|⟨b,p,d,M,m,y,rfl,u,⟨J,x⟩,G,L⟩
 .have e:a=[]:=(by grind);subst e;refine⟨⟨AF,0,rfl⟩,λj r=>?_⟩;obtain rfl:j=0:=by omega
  exact⟨trivial,[],nR,rfl,by simp⟩
 .rw[B];refine⟨⟨_,d,rfl⟩,λj r=>?_⟩;obtain⟨l,g,q⟩:=sm.blk i _ _ y hH;have f:=((YD (pre:=[]) (by simpa using g) q).drop s).take n;rw[he]at f;by_cases z:0<d
  .obtain rfl:=u z;simpa using tS (fr:=fr) (σ:=σ) f (by omega)
  .obtain rfl:j=0:=by omega
   exact⟨trivial,[],nR,rfl,by simp⟩
theorem wE{b k:Nat}{r:AA α}{a c:Int}(h:E_ l a c=AC r)(hH:H[b]?=AC (.row t k (l.map e)):=by rfl):PG P H (.osl b (0+a.toNat) (c.toNat-a.toNat) k) k (r.map e):=by
 obtain⟨g,f,i,d⟩:=Pb h;refine PG.osl hH ?_ (by grind);rw[<- d, <- List.map_drop, <- List.map_take,Xx,List.drop_take]
def O_(l:AA α)(a c:Int)(m:AA α):AB (AA α):=AC (l.take a.toNat++m.take (c.toNat-a.toNat)++l.drop (a.toNat+min m.length (c.toNat-a.toNat)))
theorem eU{r m:AA α}{a c:Int}(h:E_ l a c=AC r)(d:O_ l a c m=AC l'):l.length=l'.length:=by
 obtain⟨f,e,g,_⟩:=Pb h;rw[<- X0 d]
 grind
theorem mJ{m:AA α}(a:O_ l 0 l.length m=AC l'):l.length=l'.length:=by
 rw[<- X0 a]
 grind
theorem sS{c:Call}{k b a n:Nat}{x:Operand}{ya:A}{m:AA α}(aa:a+n<=l.length)(ae:l.take a++m.take n++l.drop (a+min m.length n)=l')(hT:∀w,(underlying T).run P w=.ok (.slice et) w)(z:∀w,(sizeOf et).run P w=.ok k w)(Q:PG P H ya k (m.map e))
  (ho:o.op=.call c)(hc:c={callee:=.builtin .copy,args:= #[x,y],argTypes:= #[T,T']})(hx:Bu env x=.osl b a n k)(hH:H[b]?=AC (.row t k (l.map e)))(O:Bu env y=ya):
  Do P o env H (.int .i64 (min m.length n:Nat)) (H.set b (.row t k (l'.map e))):=by
 intro X F σ N ac w r;have q:=Qn r x;rw[hx]at q;have h2:=Qn r y;rw[O]at h2;obtain⟨⟨ay,cy,V⟩,q2⟩:=Q X F σ w _ r.sim h2;rw[X3]at V q2;obtain⟨q3,G,J,M,q6⟩:=q2 (min m.length n) (Nat.min_le_left _ _);have i:((m.map e).take (min m.length n)).length=min m.length n:=by simp
 have Y:l'.map e=(l.map e).take a++(m.map e).take (min m.length n)++(l.map e).drop (a+((m.map e).take (min m.length n)).length):=by
  grind[List.map_take,List.map_drop]
 have d:(Builtin.copy_ #[T,T'] o.type #[ac.eval x,ac.eval y]).run P w=.ok (.int .i64 (min m.length n:Nat)) w->min m.length n=0->
   ∃v w' ro' τ,(execOp ac.eval o).run P w=.ok (.value v) w'/\VR ro' (σ++τ) w' (.int .i64 (min m.length n:Nat)) v/\B9 X ro' (σ++τ) (H.set b (.row t k (l'.map e))) w'/\Qm X F w ro' w':=by
  intro g hz;have Q:H.set b (.row t k (l'.map e))=H:=by
   have:l'.map e=l.map e:=by simp_all
   grind[List.set_getElem_self]
  refine⟨_,w,F,[],?_,rfl,by simpa[Q]using r.sim,Qm.refl _ _ _⟩;subst hc;generalize ac.eval=ρ at*
  simp_all[execOp,resolve,invoke,builtin]
 have u:∀j:Nat,goInt j=.int .i64 j:=λ_=>rfl;rcases q with⟨E,q⟩|⟨bb,p,af,t',mm,q,h3,h4,⟨h5,ab⟩,h6,h7⟩
 .refine d ?_ (by omega);rw[V]at J⊢;rw[q];have:Nat.min m.length 0=min m.length n:=by rw[E]
  simp only[Builtin.copy_,XH,XF,XG,Vn,hT,z,Result.andThen,Builtin.lenOf,Vp,this,J,u]
 .have f:∀R:Result Unit,(storeCells ⟨bb,p,AF⟩ G).run P w=R->(Builtin.copy_ #[T,T'] o.type #[ac.eval x,ac.eval y]).run P w=R.andThen λ_ w=>.ok (.int .i64 (min m.length n:Nat)) w:=by
   intro R hR;rw[V]at J⊢;rw[h3];have:Nat.min m.length n=min m.length n:=rfl;simp only[Builtin.copy_,XH,XF,XG,Vn,hT,z,Result.andThen,Builtin.lenOf,Vp,this,J,u,hR]
  by_cases E:min m.length n=0
  .have s:G=[]:=by
    have:=M.length;rw[E]at this;exact VJ.1 (by simpa using this)
   refine d ?_ E;have:=f (.ok () w) (by rw[s];rfl);rw[this];rfl
  .obtain rfl:=h4 (by omega);obtain⟨l0,g1,g2⟩:=r.sim.blk b _ _ q hH;have L:=g2.length;have s:=M.length;rw[Ys q3,i]at s;have ad:a*k+(min m.length n)*k<=l0.length:=by
    rw[<- XB];refine XW (XD k ?_) L;rw[X3];omega
   have B:=Yb (P:=P) (vs:=G) (a*k) 0 g1 (by omega) q6;rw[Xy]at B;have g:=f _ B;have h:=r.sim.set (x':=.row t k (l'.map e)) (obj:=.cells (splice l0 (a*k) G).toArray t (0,0)) q hH rfl
    (λy O=>Jq g1 (Ya (by omega)) y O)
    (λex W=>⟨_,W,by
     rw[Y];exact(RL.put g2 (by rw[i,X3];omega) q3 M q6).mono ex.nil⟩)
   refine⟨_,_,F,[],?_,rfl,by simpa using h.1,h.2⟩;subst hc;generalize ac.eval=ρ at*;simp only[execOp,ho,resolve,Vn,Vp,Result.andThen,invoke,builtin,XJ,Vk,Vl,g]
theorem yF{c:Call}{k b:Nat}{x:Operand}{d:A}{m:AA α}(h:O_ l 0 l.length m=AC l')(g:∀w,(underlying T).run P w=.ok (.slice et) w)(a:∀w,(sizeOf et).run P w=.ok k w)(f:PG P H d k (m.map e))
  (i:o.op=.call c:=by rfl)(hc:c={callee:=.builtin .copy,args:= #[x,y],argTypes:= #[T,T']}:=by rfl)(hx:Bu env x=.osl b 0 l.length k:=by rfl)(hH:H[b]?=AC (.row t k (l.map e)):=by rfl)(hy:Bu env y=d:=by rfl):
  Do P o env H (.int .i64 (min m.length l.length:Nat)) (H.set b (.row t k (l'.map e))):=by
 refine sS (by omega) ?_ g a f i hc hx hH hy;rw[<- X0 h];rfl
theorem yE{c:Call}{k b:Nat}{x:Operand}{d:A}{n m:AA α}{i j:Int}(hi:E_ l i j=AC n)(h:O_ l i j m=AC l')(g:∀w,(underlying T).run P w=.ok (.slice et) w)(a:∀w,(sizeOf et).run P w=.ok k w)(f:PG P H d k (m.map e))
  (p:o.op=.call c:=by rfl)(hc:c={callee:=.builtin .copy,args:= #[x,y],argTypes:= #[T,T']}:=by rfl)(hx:Bu env x=.osl b (0+i.toNat) (j.toNat-i.toNat) k:=by rfl)(hH:H[b]?=AC (.row t k (l.map e)):=by rfl)(hy:Bu env y=d:=by rfl):
  Do P o env H (.int .i64 (min m.length (j.toNat-i.toNat):Nat)) (H.set b (.row t k (l'.map e))):=by
 obtain⟨u,s,r,q⟩:=Pb hi;refine sS (by omega) (X0 h) g a f p hc ?_ hH hy
 grind
end
open Go.MapKept
section
variable {fr ro ro':Nat->Prop} {σ:CD} {H:Qc} {w:AJ}
end
end Go.Sw
namespace Go.Sw
open Option renaming some→AC,none→AF
open Bool renaming false→AD,true→AE
open Decidable renaming decide→AG
open Go renaming World→AJ,Program→AK,Value→AL,Oper→AM
variable {α:Type}
def Zq(l:AA α)(o:AB (AA α)):AB (AA α):=o.bind λr=>bif Nat.beq l.length r.length then AC r else AF
variable {l:AA α}{o:AB (AA α)}
theorem qn{r:AA α}(h:Zq l o=AC r):o=AC r/\l.length=r.length:=by
 cases o with
 |none=>cases h
 |some x=>
  have a:(bif Nat.beq l.length x.length then AC x else AF)=AC r:=h;cases q:Nat.beq l.length x.length with
  |false=>grind
  |true=>
   simp_all
theorem xY{r:AA α}(h:Zq l o=AC r):o=AC r:=(qn h).1
theorem sB{r:AA α}(h:Zq l o=AC r):l.length=r.length:=(qn h).2
section
variable {P:AK} {o:AM} {env:Env} {H:Qc} {α:Type} {e:α->AA A}
end
open Go.MapKept
section
variable {P:AK} {o:AM} {env:Env} {H:Qc}
variable {T kt et:Nat} {α β:Type} [DecidableEq α] {ek:α->A} {ev:β->A} {x y:Operand} {i:Nat} {l:AA (α×β)} {k:α} {z0:β} {z:AL}
end
section
variable {fr ro:Nat->Prop} {σ:CD} {H:Qc} {w:AJ}
theorem B9.shutAny(s:B9 fr ro σ H w){i b:Nat}{m:B8}(hσ:σ[i]?=AC (AC b))(hH:H[i]?=AC m)(k:m.live=AE):
  B9 fr (λc=>ro c\/c=b) σ (H.set i .dead) w:=by
 have hown:=s.own i b _ hσ hH k;have ext:Cx ro σ w (λc=>ro c\/c=b) σ w:=⟨λ_ q=>.inl q,λ_ _=>rfl,λ_ _ q=>q,λ_ _ q=>q⟩;have a:∀(j:Nat) (v:B8),(H.set i .dead)[j]?=AC v->v≠ .dead->j≠i/\H[j]?=AC v:=by
  grind
 refine⟨by rw[X5];exact s.len,s.roOk.to (λ_ q=>.inl q) (λ_ _=>rfl) ?_,s.frLt,?_,?_,?_,?_,s.hidTo (· = ·) Yl (XU _) (λj d x c u J F N=>N.elim id λq=>((s.hid j d x c u J F).ne i b _ hσ hH k q).elim) (λ_ _ _ _ _ _ _ q=>q) λj d y E M z=>.inl ⟨j,y,rfl,E,(a j y M (eN z)).2,id,λ_ q=>q⟩⟩
 .rintro c (q|rfl)
  .exact s.roLt c q
  omega
 .rintro c (q|rfl)
  .exact s.roFr c q
  grind
 .intro j c v g f h;obtain⟨e,f⟩:=a j v f (KY h);obtain⟨B,L,O⟩:=s.own j c v g f h;refine⟨B,?_,O⟩;rintro(q|rfl)
  .exact L q
  .exact e (s.inj j i c v _ g hσ f hH h k)
 .intro j n c v p g f h G t r;exact s.inj j n c v p g f (a j v h (KY t)).2 (a n p G (KY r)).2 t r
 .intro j y v g f;by_cases l:v≠ .dead
  .exact(s.blk j y v g (a j v f l).2).keep ext (λ_ _ _=>rfl) (λ_ _ _ _=>rfl)
  .obtain rfl:v=.dead:=Classical.not_not.1 l;trivial
def ky(H:Qc):AA Nat->Qc
 |[]=>H
 |i::l=>ky (H.set i .dead) l
theorem B9.shutL:∀{l:AA Nat} {ro:Nat->Prop} {H:Qc} (s:B9 fr ro σ H w),l.Nodup->(∀i∈l,∃x,H[i]?=AC x/\x.live=AE)->
  ∃ro',B9 fr ro' σ (ky H l) w/\(∀c,ro c->ro' c)/\ ∀i∈l,∀b,σ[i]?=AC (AC b)->ro' b
 |[],ro,H,s,_,_=>⟨ro,s,λ_ q=>q,λ_ h=>by cases h⟩
 |i::l,ro,H,s,hn,hl=>by
  rw[List.nodup_cons]at hn;obtain⟨x,hx,hxl⟩:=hl i (by simp);have rest:∀i'∈l,∃x,(H.set i .dead)[i']?=AC x/\x.live=true:=by
   grind
  have j:∃q,σ[i]?=AC q:=by
   have:i<σ.length:=by rw[s.len];grind
   simp_all
  obtain⟨q,m⟩:=j;cases q with
  |some b=>
   obtain⟨ro',d,f,k⟩:=B9.shutL (s.shutAny m hx hxl) hn.2 rest;refine⟨ro',d,(by grind),λi' a g e=>?_⟩
   grind
  |none=>
   obtain⟨ro',d,f,k⟩:=B9.shutL (s.kill i) hn.2 rest;refine⟨ro',d,f,λi' a g e=>?_⟩
   grind
end
end Go.Sw
namespace Go.Sw
open Option renaming some→AC,none→AF
open Bool renaming false→AD,true→AE
open Decidable renaming decide→AG
open Go renaming World→AJ,Program→AK,Value→AL,Oper→AM
structure G8 (α β:Type) where
 number:Int
 r0:List α
 r1:List α
 r2:List α
 reports:List β
 appeal:Bool
 deriving DecidableEq
structure FK (α β:Type) where
 T:Nat
 tF:Nat
 kF:Nat
 tR:Nat
 kR:Nat
 eF:α->List A
 eR:β->List A
section
variable {α β:Type} (K:FK α β)
def vT(b:Nat)(x:G8 α β):AA A:=[.int .i64 x.number,.osl (b+1) 0 x.r0.length K.kF,.osl (b+2) 0 x.r1.length K.kF,.osl (b+3) 0 x.r2.length K.kF,.osl (b+4) 0 x.reports.length K.kR,.bool x.appeal]
def dW(b:Nat)(x:G8 α β):AA B8:=[.cells K.T (vT K b x),.row K.tF K.kF (x.r0.map K.eF),.row K.tF K.kF (x.r1.map K.eF),.row K.tF K.kF (x.r2.map K.eF),.row K.tR K.kR (x.reports.map K.eR)]
def Mk:Nat->AA (G8 α β)->AA B8
 |_,[]=>[]
 |b,x::l=>dW K b x++Mk (b+5) l
def oa(x:G8 α β):AA A:=[.int .i64 x.number,.rsl K.kF (x.r0.map K.eF),.rsl K.kF (x.r1.map K.eF),.rsl K.kF (x.r2.map K.eF),.rsl K.kR (x.reports.map K.eR),.bool x.appeal]
def X_:Nat->AA (G8 α β)->AA (Int×Nat)
 |_,[]=>[]
 |b,x::l=>(x.number,b)::X_ (b+5) l
def gU(j:Nat):A:=.ptr j 0
def uU(x:G8 α β):A:=.rp (oa K x)
def ki(fs:AA (G8 α β)):AA (Int×G8 α β):=fs.map λx=>(x.number,x)
theorem ry(b:Nat)(x:G8 α β)(l:AA (G8 α β)):Mk K b (x::l)=dW K b x++Mk K (b+5) l:=rfl
theorem zU(b:Nat)(x:G8 α β):(dW K b x).length=5:=rfl
end
section
variable {fr ro ro':Nat->Prop} {σ:CD} {w:AJ}
theorem e8(sub:∀c,ro c->ro' c){i t k:Nat}{es:AA (AA A)}{v:AL}(f:∀b,σ[i]?=AC (AC b)->BR ro σ w (.row t k es) (AC b)/\ro' b)(h:VR ro σ w (.osl i 0 es.length k) v):VR ro' [] w (.rsl k es) v:=by
 rcases h with⟨x,h⟩|⟨b,p,a,E,m,s,h,z,⟨d,r⟩,u,y⟩
 .have:es=[]:=(by grind);subst this;exact⟨AF,0,h,XU _,.inl rfl⟩
 .refine⟨_,a,h,d,?_⟩;by_cases n:es=[]
  .exact .inl n
  .right;have B:0<a:=Vg (by grind) d;obtain⟨⟨l,g,j⟩,e⟩:=f b s;refine⟨b,0,by simp,e,?_⟩;have:=YD (pre:=[]) (by simpa using g) j;exact this.keep ⟨sub,λ_ _=>rfl,λ_ _ q=>q,λ_ _ q=>q⟩ rfl
theorem o9{ro:Nat->Prop}{w:AJ}{b t:Nat}:∀{cs:AA A} {pre l:AA AL},w.heap[b]?=AC (.cells (pre++l).toArray t (0,0))->LR ro [] w cs l->(∀v∈l,QB v)->CR ro [] w b cs pre.length
 |[],pre,l,_,_,_=>trivial
 |a::cs,pre,l,hb,hl,hp=>by
  obtain⟨v,l',rfl,h1,h2⟩:=hl;refine⟨⟨v,?_,hp v (by simp),h1⟩,?_⟩
  .unfold World.cell?
   grind
  .have:=o9 (pre:=pre++[v]) (by simpa using hb) h2 (by grind)
   grind
variable {α β:Type} (K:FK α β)
theorem wH(sub:∀c,ro c->ro' c){b:Nat}{x:G8 α β}{v:AL}(f:∀(d c:Nat) (y:B8),(dW K b x)[d]?=AC y->σ[b+d]?=AC (AC c)->BR ro σ w y (AC c)/\ro' c)(h:VR ro σ w (.ptr b 0) v):VR ro' [] w (.rp (oa K x)) v:=by
 obtain⟨c,n,m⟩:=h;obtain⟨⟨l,q,a,j⟩,p⟩:=f 0 c _ rfl n;refine⟨c,0,m,p,(o9 (pre:=[]) (by simpa using q) ?_ j)⟩;obtain⟨v0,L,rfl,g,a⟩:=a;obtain⟨u,E,rfl,z,a⟩:=a;obtain⟨i,B,rfl,G,a⟩:=a;obtain⟨s,J,rfl,F,a⟩:=a;obtain⟨r,H,rfl,M,a⟩:=a;obtain⟨t,N,rfl,k,a⟩:=a;refine⟨v0,_,rfl,g,u,_,rfl,e8 sub (λc e=>f 1 c _ rfl e) (by grind),i,_,rfl,e8 sub (λc e=>f 2 c _ rfl e) (by grind),s,_,rfl,e8 sub (λc e=>f 3 c _ rfl e) (by grind),
  r,_,rfl,e8 sub (λc e=>f 4 c _ rfl e) (by grind),t,_,rfl,k,a⟩
theorem xE(sub:∀c,ro c->ro' c){ek:Int->A}(hek:∀(k:Int) (v:AL),VR ro σ w (ek k) v->VR ro' [] w (ek k) v):∀{b:Nat} {fs:AA (G8 α β)} {es:AA MapEntry},(∀(d c:Nat) (y:B8),(Mk K b fs)[d]?=AC y->σ[b+d]?=AC (AC c)->BR ro σ w y (AC c)/\ro' c)->
  ER ro σ w (Q6 ek gU (X_ b fs)) es->ER ro' [] w (Q6 ek (uU K) (ki fs)) es
 |b,[],es,_,h=>h
 |b,x::l,es,hb,h=>by
  obtain⟨e,l',rfl,h1,h2,h3⟩:=h;refine⟨e,l',rfl,hek _ _ h1,?_,?_⟩
  .refine wH K sub (λd c y hy hc=>hb d c y ?_ hc) h2
   grind[ry]
  .refine xE sub hek (λd c y hy hc=>hb (d+5) c y ?_ (by grind)) h3
   grind[ry,zU]
end
section
variable {fr ro:Nat->Prop} {σ:CD} {w:AJ} {α β:Type} (K:FK α β)
end
open Go.Sort Go.Proofs Go.Shelf
end Go.Sw
namespace Go.Sw
open Option renaming some→AC,none→AF
open Bool renaming false→AD,true→AE
open Decidable renaming decide→AG
open Go renaming World→AJ,Program→AK,Value→AL,Oper→AM
structure Pl where
 b:Nat
 i0:Nat
 i1:Nat
 i2:Nat
 i3:Nat
def Pl.ix(p:Pl):AA Nat:=[p.b,p.i0,p.i1,p.i2,p.i3]
section
variable {α β:Type} (K:FK α β)
def lV(p:Pl)(x:G8 α β):AA A:=[.int .i64 x.number,.osl p.i0 0 x.r0.length K.kF,.osl p.i1 0 x.r1.length K.kF,.osl p.i2 0 x.r2.length K.kF,.osl p.i3 0 x.reports.length K.kR,.bool x.appeal]
structure Kt (H:Qc) (x:G8 α β) (p:Pl):Prop where
 c:H[p.b]?=AC (.cells K.T (lV K p x))
 r0:H[p.i0]?=AC (.row K.tF K.kF (x.r0.map K.eF))
 r1:H[p.i1]?=AC (.row K.tF K.kF (x.r1.map K.eF))
 r2:H[p.i2]?=AC (.row K.tF K.kF (x.r2.map K.eF))
 r3:H[p.i3]?=AC (.row K.tR K.kR (x.reports.map K.eR))
abbrev Tr(α β:Type):=AA (G8 α β×Pl)
structure HS (lo:Nat) (H:Qc) (bk:Tr α β):Prop where
 laid:∀e∈bk,Kt K H e.1 e.2
 own:∀e∈bk,e.2.ix.Nodup
 ne:bk.Pairwise λe f=>∀i∈e.2.ix,i∉f.2.ix
 lo:∀e∈bk,∀i∈e.2.ix,lo<=i
 num:(bk.map (·.1.number)).Nodup
variable {K} {lo:Nat} {H H':Qc} {bk l r:Tr α β} {e:G8 α β×Pl} {x':G8 α β} {p':Pl}
theorem HS.nil:HS K lo H []:=⟨(λ_ h=>by cases h),(λ_ h=>by cases h),List.Pairwise.nil,(λ_ h=>by cases h),List.nodup_nil⟩
theorem Kt.lt(h:Kt K H e.1 e.2):∀i∈e.2.ix,i<H.length:=by
 intro i a;have g:∀{j:Nat} {y:B8},H[j]?=AC y->j<H.length:=(by grind);simp[Pl.ix,X7,List.not_mem_nil,or_false]at a;rcases a with rfl|rfl|rfl|rfl|rfl
 .exact g h.c
 .exact g h.r0
 .exact g h.r1
 .exact g h.r2
 .exact g h.r3
theorem Kt.keep(h:Kt K H e.1 e.2)(k:∀i∈e.2.ix,H'[i]?=H[i]?):Kt K H' e.1 e.2:=by
 refine⟨?_,?_,?_,?_,?_⟩
 .rw[k _ (by simp[Pl.ix])];exact h.c
 .rw[k _ (by simp[Pl.ix])];exact h.r0
 .rw[k _ (by simp[Pl.ix])];exact h.r1
 .rw[k _ (by simp[Pl.ix])];exact h.r2
 .rw[k _ (by simp[Pl.ix])];exact h.r3
theorem HS.keep(h:HS K lo H bk)(k:∀j,lo<=j->j<H.length->H'[j]?=H[j]?):HS K lo H' bk:=
 ⟨λe he=>(h.laid e he).keep λi hi=>k i (h.lo e he i hi) ((h.laid e he).lt i hi),h.own,h.ne,h.lo,h.num⟩
theorem HS.upd(h:HS K lo H (l++e::r))(z:Kt K H' x' p')(B:x'.number=e.1.number)(u:∀j,lo<=j->j<H.length->j∉e.2.ix->H'[j]?=H[j]?)
  (hi:∀i∈p'.ix,i∈e.2.ix\/H.length<=i)(y:p'.ix.Nodup)(E:lo<=H.length):HS K lo H' (l++(x',p')::r):=by
 obtain⟨w,t,F⟩:=List.pairwise_append.1 h.ne;obtain⟨G,x⟩:=Xc.1 t;have mem:∀f∈l++(x',p')::r,f=(x',p')\/(f∈l++e::r/\ ∀i∈f.2.ix,i∉e.2.ix):=by
  intro f a
  grind
 refine⟨?_,?_,?_,?_,?_⟩
 .intro f a;rcases mem f a with rfl|⟨m,p⟩
  .exact z
  .exact(h.laid f m).keep λi hi=>u i (h.lo f m i hi) ((h.laid f m).lt i hi) (p i hi)
 .intro f a;rcases mem f a with rfl|⟨m,p⟩
  .exact y
  .exact h.own f m
 .refine List.pairwise_append.2 ⟨w,Xc.2 ⟨?_,x⟩,?_⟩
  .intro f a i d k;rcases hi i d with q|q
   .grind
   .have:=(h.laid f (by simp[a])).lt i k;omega
  .intro f a g s i k n;rcases X7.1 s with rfl|s
   .rcases hi i n with q|q
    .grind
    .have:=(h.laid f (by simp[a])).lt i k;omega
   grind
 .intro f a;rcases mem f a with rfl|⟨m,p⟩
  .intro i d;rcases hi i d with q|q
   .exact h.lo e (by simp) i q
   .omega
  .exact h.lo f m
 .have:=h.num
  grind
theorem HS.add(h:HS K lo H bk)(n:Kt K H' x' p')(r:∀e∈bk,e.1.number≠x'.number)(k:∀j,lo<=j->j<H.length->H'[j]?=H[j]?)
  (hi:∀i∈p'.ix,H.length<=i)(m:p'.ix.Nodup)(t:lo<=H.length):HS K lo H' (bk++[(x',p')]):=by
 have p:=h.keep k;have mem:∀f∈bk++[(x',p')],f∈bk\/f=(x',p'):=by
  simp
 refine⟨?_,?_,?_,?_,?_⟩
 .intro f d;rcases mem f d with q|rfl
  .exact p.laid f q
  .exact n
 .intro f d;rcases mem f d with q|rfl
  .exact h.own f q
  .exact m
 .refine List.pairwise_append.2 ⟨h.ne,by simp,λf d g s i a l=>?_⟩;have:=(h.laid f d).lt i a
  grind
 .intro f d i a;rcases mem f d with q|rfl
  .exact h.lo f q i a
  grind
 .rw[Xf];refine List.nodup_append.2 ⟨h.num,by simp,?_⟩
  grind
end
section
variable {fr ro ro':Nat->Prop} {σ:CD} {w:AJ} {α β:Type} (K:FK α β)
def k9(bk:Tr α β):AA Nat:=bk.flatMap λe=>e.2.ix
theorem HS.all{lo:Nat}{H:Qc}:∀{f:Tr α β},HS K lo H f->(k9 f).Nodup/\ ∀i∈k9 f,lo<=i/\ ∃y,H[i]?=AC y/\y.live=true:=by
 intro f h;refine⟨?_,?_⟩
 .have k:=h.own;have j:=h.ne
  grind[k9]
 .intro i d;obtain⟨e,g,d⟩:=List.mem_flatMap.1 d;refine⟨h.lo e g i d,?_⟩;have a:=h.laid e g;simp[Pl.ix,X7,List.not_mem_nil,or_false]at d;rcases d with rfl|rfl|rfl|rfl|rfl
  .exact⟨_,a.c,rfl⟩
  .exact⟨_,a.r0,rfl⟩
  .exact⟨_,a.r1,rfl⟩
  .exact⟨_,a.r2,rfl⟩
  .exact⟨_,a.r3,rfl⟩
end
section
variable {α β:Type} (K:FK α β) {env:Env} {H:Qc}
end
section
variable {P:AK} {h0 N:Nat} {all:Array AM} {o:AM} {l:AA AM} {env:Env} {H:Qc} {Q:QP}
end
section
variable {h0 n:Nat} {env env':Env} {H H':Qc}
end
section
variable {P:AK} {o:AM} {env:Env} {H:Qc} {α:Type}
end
section
variable {α β:Type}
def Pu(k:Int):G8 α β:=⟨k,[],[],[],[],AD⟩
variable (K:FK α β) {lo:Nat} {H H':Qc} {bk:Tr α β}
def Ts(n:Nat):Pl:=⟨n,n+1,n+2,n+3,n+4⟩
def ez(n:Nat)(k:Int):Qc:=[.cells K.T (lV K (Ts n) (Pu k)),.row K.tF K.kF [],.row K.tF K.kF [],.row K.tF K.kF [],.row K.tR K.kR []]
theorem Kt.new{k:Int}:Kt K (H++ez K H.length k) (Pu k) (Ts H.length):=by
 have g:∀(j:Nat) (y:B8),(ez K H.length k)[j]?=AC y->(H++ez K H.length k)[H.length+j]?=AC y:=by
  grind
 exact⟨g 0 _ rfl,g 1 _ rfl,g 2 _ rfl,g 3 _ rfl,g 4 _ rfl⟩
theorem pn(n:Nat):(∀i∈(Ts n).ix,n<=i)/\(Ts n).ix.Nodup:=by
 simp_all[Pl.ix,Ts]
variable {K}
theorem HS.new{k:Int}(h:HS K lo H bk)(a:∀e∈bk,e.1.number≠k)(d:lo<=H.length):HS K lo (H++ez K H.length k) (bk++[(Pu k,Ts H.length)]):=by
 refine h.add (Kt.new K) a (by grind) (pn _).1 (pn _).2 d
theorem HS.row{l r:Tr α β}{e:G8 α β×Pl}{x':G8 α β}{d:Pl}{i:Nat}{y:B8}(h:HS K lo H (l++e::r))(w:lo<=H.length)(n:x'.number=e.1.number)(hi:i∈e.2.ix)(s:i≠e.2.b)(m:d.b=e.2.b)
  (hH:H'=(H.set i .dead++[y]).set e.2.b (.cells K.T (lV K d x')))
  (k:d.ix=e.2.ix.map λj=>bif Nat.beq j i then H.length else j)
  (p:H'[d.i0]?=AC (.row K.tF K.kF (x'.r0.map K.eF)))(g:H'[d.i1]?=AC (.row K.tF K.kF (x'.r1.map K.eF)))(z:H'[d.i2]?=AC (.row K.tF K.kF (x'.r2.map K.eF)))(q:H'[d.i3]?=AC (.row K.tR K.kR (x'.reports.map K.eR))):
  HS K lo H' (l++(x',d)::r):=by
 have t:=h.laid e (by simp);have f:=t.lt;have u:e.2.b<H.length:=f _ (by simp[Pl.ix]);refine h.upd ⟨?_,p,g,z,q⟩ n ?_ ?_ ?_ w
 .grind
 .grind[List.getElem?_set_ne,Pl.ix]
 .grind
 .rw[k];have B:=h.own e (by simp);refine List.pairwise_map.2 (List.Pairwise.imp_of_mem ?_ B);intro a b E m x;cases G:Nat.beq a i with
  |true=>
   cases F:Nat.beq b i with
   |true=>simp_all
   |false=>grind
  |false=>
   grind
end
section
variable {fr ro:Nat->Prop} {σ:CD} {H:Qc} {w:AJ}
end
section
variable {P:AK} {o:AM} {env:Env} {H:Qc}
theorem Le.frow{B s i n k t:Nat}{es:AA (AA A)}(x:lk env s=.osl i 0 n k)(hH:H[i]?=AC (.frow t k es))(h:es.length=n):Le B env H (up env s (.rsl k es)) H:=by
 intro R u σ N a w r;refine⟨u,σ,⟨r.sim,?_,r.size,r.defers⟩,λ_ q=>q,rfl⟩;intro d;simp only[lk];by_cases q:d=s
 .subst q;rw[VF];have:=r.env d;rw[x]at this;rcases this with⟨g,f⟩|⟨b,p,e,P,m,g,f,L,⟨Q,F⟩,V,T⟩
  .have:es=[]:=(by grind);subst this;exact⟨AF,0,by rw[f];rfl,XU _,.inl rfl⟩
  .obtain⟨G,l,y,J,M⟩:=r.sim.blk i _ _ g hH;refine⟨_,e,by rw[f,h],by omega,?_⟩;by_cases E:es=[]
   .exact .inl E
   .right;have j:0<e:=(by grind);have O:=L j;exact⟨b,0,by simp,G,(YD (pre:=[]) (by simpa using y) J)⟩
 .have:Nat.beq d s=false:=by
   cases z:Nat.beq d s with
   |true=>simp_all
   |false=>rfl
  rw[this];exact r.env d
end
open Go.MapKept
section
variable {P:AK} {kt et:Nat} {α β:Type} [DecidableEq α] {ek:α->A} {ev:β->A} {ro:Nat->Prop} {σ:CD} {w:AJ} (K:FQ P kt ek)
include K
variable {o:AM} {env:Env} {H:Qc} {T T' i:Nat} {x y:Operand} {l m:AA (α×β)} {k:α}
end
end Go.Sw
namespace Go.Sw
open Option renaming some→AC,none→AF
open Bool renaming false→AD,true→AE
open Decidable renaming decide→AG
open Go renaming World→AJ,Program→AK,Value→AL,Oper→AM
section
variable {P:AK} {h0 N:Nat} {all:Array AM} {o1 o2:AM} {l:AA AM} {env:Env} {H:Qc} {Q:QP}
end
section
variable {P:AK} {o:AM} {env:Env} {H:Qc}
end
variable {hi:Int}
section
variable {P:AK} {o:AM} {env:Env} {H:Qc} {α:Type}
def HX(l:AA α)(lo hi i:Int):AB α:=bif AG (0<=lo)&&(AG (0<=i)&&AG (lo+i<hi))then Bt l (lo+i)else AF
theorem qO{l:AA α}{lo i:Int}{v:α}(h:HX l lo hi i=AC v):0<=lo/\0<=i/\lo+i<hi/\Bt l (lo+i)=AC v:=by
 unfold HX at h
 grind
theorem M5{l:AA α}{lo i:Int}{v:α}(h:HX l lo hi i=AC v):Bt l (lo+i)=AC v:=(qO h).2.2.2
theorem JU{t a k b:Nat}{x y:Operand}{l:AA α}{m:IntKind}{lo i:Int}{v:α}(h:HX l lo hi i=AC v)(f:∀w,(underlying t).run P w=.ok (.slice a) w)(d:∀w,(sizeOf a).run P w=.ok k w)
  (n:o.op=.indexAddr t x y:=by rfl)(hx:Bu env x=.osl b (0+lo.toNat) (hi.toNat-lo.toNat) k:=by rfl)(hy:Bu env y=.int m i:=by rfl):Bz P o env H (.ptr b ((lo+i).toNat*k)):=by
 obtain⟨p,j,q,_⟩:=qO h;have g:=ly (H:=H) n f d hx hy j (by omega);have e:(0+lo.toNat)*k+i.toNat*k=(lo+i).toNat*k:=by
  rw[<- XB]
  grind
 rwa [e]at g
end
theorem Jt{h0:Nat}{env:Env}{H H':Qc}(e:H=H'):Le h0 env H env H':=e▸Le.refl h0 env H
section
variable {P:AK} {o:AM} {env:Env} {H:Qc}
end
section
variable {env:Env} {H:Qc}
theorem sQ{h0 i j m o' n k T:Nat}{x:B8}{d:AA A}(hi:H[i]?=AC x)(G:H[j]?=AC (.cells T d))(u:d[m]?=AC (.osl i o' n k))(g:Nat.beq i j=AD)(X:Nat.ble h0 H.length=AE):
  Le h0 env H env ((H.set i .dead).set j (.cells T (d.set m (.osl H.length o' n k)))++[x]):=by
 intro fr B σ N a w r;have hiσ:i<σ.length:=by rw[r.sim.len];exact(XM.1 hi).1
 have hσ:σ[i]?=AC σ[i]:=XL hiσ;have ext:Cx B σ w B (σ++[σ[i]]) w:=⟨λ_ q=>q,λ_ _=>rfl,λ_ _ q=>q,λ_ _ h=>UV h⟩;have R:=r.sim.moved hi hσ;have f:j<H.length:=(XM.1 G).1;have E:i≠j:=λq=>by rw[q,VF]at g;cases g
 have s:(H.set i .dead++[x])[j]?=AC (.cells T d):=by
  rw[XN (by simpa using f),XQ E];exact G
 have Q:(H.set i .dead).set j (.cells T (d.set m (.osl H.length o' n k)))++[x]=(H.set i .dead++[x]).set j (.cells T (d.set m (.osl H.length o' n k))):=by
  rw[List.set_append_left _ _ (by simpa using f)]
 rw[Q];refine⟨B,σ++[σ[i]],⟨R.weaken s rfl ?_,λq=>(r.env q).mono ext,r.size,r.defers⟩,λ_ q=>q,QH (by rw[r.sim.len];exact XS X)⟩;have e:σ.length=H.length:=r.sim.len;intro y h;cases y with
 |none=>exact h
 |some b=>
  obtain⟨l,P,Y,M⟩:=h;refine⟨l,P,?_,M⟩;clear P M s Q G R
  induction d generalizing m l with
  |nil=>cases u
  |cons c d V=>
   obtain⟨v,z,rfl,J,L⟩:=Y;cases m with
   |zero=>
    simp at u;subst u;refine⟨v,z,rfl,?_,L⟩;rcases J with h|⟨b,p,F,t,m,O,W⟩
    .exact .inl h
    .refine .inr ⟨b,p,F,t,m,?_,W⟩;rw[XN hiσ,hσ]at O;rw[<- e];simpa using O
   |succ m=>exact⟨v,z,rfl,J,V (by simpa using u) z L⟩
theorem Hx.ins{P:AK}{o:AM}{H':Qc}{T:Nat}{x y e:Operand}(m:o.op=.insert T x y e)(h:Hx P {o with op:=.mapUpdate T x y e} env H H'):Hx P o env H H':=by
 intro g f σ N a w r;obtain⟨k,d,τ,l,j,i⟩:=h g f σ N a w r;exact⟨k,d,τ,by simpa only[execOp,m]using l,j,i⟩
end
section
variable {P:AK} {o:AM} {env:Env} {H:Qc} {T kt et:Nat} {α β:Type} [DecidableEq α] {ek:α->A} {ev:β->A} {x y:Operand} {i:Nat} {l:AA (α×β)} {k:α} {z:AL} {zA:A}
end
open Go.Sort Go.Proofs Go.Shelf
end Go.Sw
namespace Go.Sw
open Option renaming some→AC,none→AF
open Bool renaming false→AD,true→AE
open Decidable renaming decide→AG
open Go renaming World→AJ,Program→AK,Value→AL,Oper→AM
variable {P:AK}{T:Nat}{w:AJ}
theorem rj{e k:Nat}(E1:∀w,(underlying T).run P w=.ok (.slice e) w)(E2:∀w,(sizeOf e).run P w=.ok k w){ad:AB Addr}{n cap:Nat}{z:Int}(d:n<=cap)(a:0<=z)(g:z<=n):
  (Instr.sliceAt T (.slice ad n cap) AF (AC (.int .i64 z)) (AC (.int .i64 z))).run P w=.ok (.slice (if z.toNat=0 then ad else ad.map (·.add (0*k))) (z.toNat-0) (z.toNat-0)) w:=by
 have f:(Instr.sliceBounds AE n cap AF (AC (.int .i64 z)) (AC (.int .i64 z))).run P w=.ok (0,z.toNat,z.toNat) w:=by
  simp[Instr.sliceBounds,Vn,Vp,Result.andThen,Ym a (show z<=cap by omega),Ym a (show z<=z.toNat by omega)]
 simp[Instr.sliceAt,Vn,E1,Result.andThen,Instr.slice,f,E2,Vp]
variable {H:Qc}{env:Env}{et:Nat}{o:AM}{α:Type}
variable {l:AA α}
theorem wZ{k b:Nat}{x hi f:Operand}{r:AA α}{c:Int}(h:E_ l 0 c=AC r)(E1:∀w,(underlying T).run P w=.ok (.slice et) w)(E2:∀w,(sizeOf et).run P w=.ok k w)
  (s:o.op=.slice T x AF (AC hi) (AC f):=by rfl)(hx:Bu env x=.osl b 0 l.length k:=by rfl)(h1:Bu env hi=.int .i64 c:=by rfl)(h2:Bu env f=.int .i64 c:=by rfl):
  Bz P o env H (.osl b (0+Int.toNat 0) (c.toNat-Int.toNat 0) k):=by
 intro J L σ N a w r;obtain⟨G,i,u,_⟩:=Pb h;have j:=Qn r x;rw[hx]at j;rcases j with⟨n,e⟩|⟨g,p,B,F,m,n,e,E,⟨y,M⟩,z,t⟩
 .have d:=rj (w:=w) E1 E2 (ad:=AF) (XU 0) i (by omega);refine⟨_,by simp[execOp,s,e,Vn,Xk,Xj,QC r h1,QC r h2,d,Vp];rfl,?_⟩;left;have:c.toNat=0:=by omega
  simp[this]
 .have d:=rj (w:=w) E1 E2 (ad:=AC ⟨g,p,AF⟩) y i u;refine⟨_,by simp[execOp,s,e,Vn,Xk,Xj,QC r h1,QC r h2,d,Vp];rfl,?_⟩;right;refine⟨g,p,c.toNat,F,m,n,by simp[Jz],λq=>?_,⟨by simp,by omega⟩,z,?_⟩
  .rw[E (by omega)];simp
  .refine XW (XD k ?_) t;omega
theorem TC.label{P:AK}{h0 N l:Nat}{env:Env}{H:Qc}{Q:QP}(h:Q .normal env H):TC P h0 N (.label l) env H Q:=
 λrd fr ro σ a w r hrd=>wpIn_label ⟨_,env,H,ro,σ,fr,rfl,h,r,Qm.refl _ _ _,rfl,Cw.refl _ _ _⟩
theorem QiY{b:Frame}{a:Act}{k:AA Item}{cs:AA Frame}{c:Code}:step P (lone (b.atR a (.code (.scope c)::k)) cs w)=.next (lone (b.atR a (.code c::.inScope c::k)) cs w):=
 step_lone_go (by simp[stepG,stepG.exec,Frame.atR])
theorem QgO{b:Frame}{a:Act}{k:AA Item}{cs:AA Frame}{c:Code}:step P (lone (b.atR a (.inScope c::k)) cs w)=.next (lone (b.atR a k) cs w):=
 step_lone_go (by simp[stepG,stepG.exec,Frame.atR])
theorem TC.scope{P:AK}{h0 N:Nat}{c:Code}{env:Env}{H:Qc}{Q:QP}(h:TC P h0 N c env H Q):TC P h0 N (.scope c) env H Q:=by
 intro y n l σ a w r hrd b k cs hro hb f;obtain⟨e,t,u,j,d⟩:=h y n l σ a w r hrd b (.inScope c::k) cs hro hb f;refine⟨e,t,u,j,.of_steps (.one (fenced_calm hb f rfl) QiY) ?_⟩;obtain⟨x,i,H',q,σ',s,p,_⟩:=j;cases e with
 |normal=>exact StepsIn.trans d (.one (fenced_calm hb f rfl) QgO)
 |exit id=>exact⟨λm g=>d.1 m (by rw[exitTo];exact g;simp),λf g=>d.2 f (by rw[exitTo];exact g;simp)⟩
 |ret=>exact d
 |_=>exact p.elim
variable {e:α->AA A}{y:Operand}
theorem t_{p:Nat}{k:Nat}{x:Operand}{B j:IntKind}{n:Int}{zv:α}{z:AL}{a:A}(m:mk n zv=AC l)(E:Yg P T et k)(G:∀w,(zeroValue et).run P w=.ok z w)(f:ZR a z)
  (J:Yo a=AE)(u:Yf a=e zv)(F:(Yf a).all Yr=AE)(d:Nat.beq (e zv).length k=AE)
  (O:o.op=.makeSlice T x y:=by rfl)(hx:Bu env x=.int B n:=by rfl)(hy:Bu env y=.int j n:=by rfl):
  bC P o env H p (.osl p 0 l.length k) (.row et k (l.map e)):=by
 intro Q V σ N act w r;obtain⟨g,t,s,L,i,M,R⟩:=mF m E G f J u F d O hx hy r;refine⟨_,_,t,λ_ h=>h.elim,λ σ' hσ ext=>⟨.inr ⟨w.heap.size,0,l.length,et,g.length,hσ,rfl,λ_=>by simp,⟨XU _,by omega⟩,?_,by rw[M,Xx];exact XU _⟩,⟨g,Q9 _ _,?_⟩⟩⟩
 .unfold World.shape?;rw[Q9];simp
 .have:=Y9 (rest:=[]) i (s.mono ⟨λ_ q=>q,ext.keep,ext.shape,λ_ _ q=>q⟩) L
  rwa [Vh]at this
variable {off:Nat}
theorem f9{f n:Nat}{x:Operand}{h:AA A}{v:A}{fs:Array Field}{g:Field}(i:QT P T f off n)(k:∀w,(underlying T).run P w=.ok (.struct fs) w)(d:fs[f]?=AC g)(a:∀w,(isAgg g.type).run P w=.ok AD w)
  (p:o.op=.field T x f:=by rfl)(hx:Bu env x=.agg h:=by rfl)(hv:h[off]?=AC v:=by rfl):Bz P o env H v:=
 Bz.field i (λl j m e w=>by
  have:=(m w).symm.trans (k w);cases this;rw[d]at e;cases e;exact a w) p hx hv
variable {es:AA (AA A)}{t u:Nat}
section
variable {P:AK} {o:AM} {env:Env} {H:Qc} {fr ro:Nat->Prop} {σ:CD} {w:AJ}
theorem m9(i n c:Nat):KX i n (c+1)=KX i n c++[[.osl i (c*n) n 1]]:=by simp[KX,Xw]
theorem gA(i n c:Nat):(KX i n c).length=c:=by simp[KX]
theorem vE{g i b n:Nat}(hH:H[i]?=AC (.row t 1 [])):Le g env H env (H.set i (.wins t b n 0)):=by
 intro k e σ N a w r;refine⟨e,σ,⟨r.sim.weaken (x':=.wins t b n 0) hH rfl ?_,r.env,r.size,r.defers⟩,λ_ q=>q,rfl⟩;intro y h;cases y with
 |none=>rfl
 |some d=>obtain⟨l,f,j⟩:=h;exact⟨l,f,trivial⟩
theorem U8{j m k:Nat}{l:AA (AA A)}{x:B8}{v:AL}(s:B9 fr ro σ H w)(hH:H[j]?=AC x)(hB:∀d,BR ro σ w x (AC d)->∃lb:AA AL,w.heap[d]?=AC (.cells lb.toArray t (0,0))/\RL ro σ w k l lb)(f:l.length=m)(h:VR ro σ w (.osl j 0 m k) v):
  (∃a c,v=.slice a m c)/\(l=[]\/allK k l)/\ ∃vs:AA AL,(∀w':AJ,w'.heap=w.heap->(Builtin.firstCells k m v).run P w'=.ok vs.toArray w')/\LR ro σ w l.flatten vs/\ ∀v∈vs,QB v:=by
 rcases h with⟨rfl,rfl⟩|⟨b,p,e,N,M,y,rfl,r,⟨J,B⟩,G,L⟩
 .have:l=[]:=VJ.1 f;subst this;exact⟨⟨AF,0,rfl⟩,.inl rfl,[],λ_ _=>YS,rfl,by simp⟩
 .obtain⟨lb,q,g⟩:=hB b (s.blk j _ _ y hH);refine⟨⟨_,e,rfl⟩,.inr g.allK,?_⟩;have E:=YD (pre:=[]) (by simpa using q) g;by_cases z:0<e
  .obtain rfl:=r z;obtain⟨u,F,i⟩:=E.flat;have:=aO (P:=P) (k:=k) (n:=m) (c:=e) u (by rw[i];simp[f]);simpa using this
  .obtain rfl:m=0:=by omega
   have:l=[]:=VJ.1 f;subst this;exact⟨[],λ_ _=>YS,rfl,by simp⟩
theorem wY{c:Call}{T' e' i j n b m:Nat}{x:Operand}(E:Yg P T t 1)(hd:∀w,(underlying T').run P w=.ok (.slice e') w)(al:n+1<=Yn)(O:off=n*m)(hu:u=m)
  (ho:o.op=.call c:=by rfl)(hc:c={callee:=.builtin .append,args:= #[x,y],argTypes:= #[T,T']}:=by rfl)(hx:Bu env x=.osl i 0 n 1:=by rfl)(hH:H[i]?=AC (.wins t b m n):=by rfl)
  (X:Bu env y=.osl j 0 1 1:=by rfl)(hHj:H[j]?=AC (.rowr t 1 [[.osl b off u 1]]):=by rfl):
  Do P o env H (.osl H.length 0 (n+1) 1) (H.set i .dead++[.wins t b m (n+1)]):=by
 subst O hu;intro fr F σ N a w r;have B:=Qn r x;rw[hx]at B;have h2:=Qn r y;rw[X]at h2;obtain⟨⟨ay,cy,e1⟩,-,vs,q3,q4,R⟩:=U8 (P:=P) (t:=t) (k:=1) (m:=1) (l:=[[A.osl b (n*u) u 1]]) r.sim hHj (λ_ q=>q) rfl h2;rw[e1]at q3;have L:allK 1 [[A.osl b (n*u) u 1]]:=⟨rfl,trivial⟩;obtain⟨⟨ax,cap,ex⟩,z,e,o1,o2,o3⟩:=U8 (P:=P) (t:=t) (k:=1) (m:=n) (l:=KX b u n) r.sim hH (λ_ q=>q) (gA _ _ _) B;have z:allK 1 (KX b u n):=by
  rcases z with q|q
  .rw[q];trivial
  .exact q
 have ag:i<H.length:=(XM.1 hH).1;have G:vs.length=1:=by rw[q4.length];rfl
 have ae:e.length=n:=by rw[o2.length,Ys z,gA];omega
 rw[ex]at o1 B;by_cases g:n+1<=cap
 .rcases B with⟨_,B⟩|⟨d,p,ak,t',mm,h3,B,h4,⟨h5,ab⟩,h6,h7⟩
  .cases B;omega
  cases B;have J:=r.sim.blk i _ _ h3 hH;obtain⟨V,Y,g2⟩:=J;obtain rfl:p=0*1:=h4 (by omega);have h:=aU (t:=o.type) E hd (ad:=AC ⟨d,0*1,AF⟩) (n:=n) (m:=1) (cap:=cap) (c:=cy) (ax:=ay) g (q3 w rfl);have Q:(n+1)*1<=V.length:=by
   have:w.shape? d=AC (t,V.length):=by unfold World.shape?;rw[Y];simp
   rw[this]at h6;cases h6;exact XW (XD 1 g) (by simpa using h7)
  have aj:=Yb (P:=P) (vs:=vs) (n*1) 0 Y (by rw[G];simpa using Q) R;have s:=r.sim.set (x':=.wins t b u (n+1)) (obj:=.cells (splice V (n*1) vs).toArray t (0,0)) h3 hH rfl
   (λy X=>Jq Y (Ya (by rw[G];simpa using Q)) y X)
   (λex ac=>⟨_,ac,by
    have:=(g2.app (n:=n) (by simp[gA]) L q4 R).mono ex;rw[VI (by simp[gA])]at this;rw[m9];exact this⟩)
  have sm:=s.1.moved (i:=i) (Xa ag) h3;rw[List.set_set]at sm;refine⟨.slice (AC ⟨d,0*1,AF⟩) (n+1) cap,_,F,[AC d],?_,.inr ⟨d,0*1,cap,t',mm,?_,rfl,h4,⟨g,ab⟩,?_,h7⟩,sm,s.2⟩
  .refine YN ho hc _ ?_;rw[ex,e1,h];simp only[Jz,Nat.zero_mul,Xx,Vn,aj,Result.andThen,Vp];simp
  .rw[<- r.sim.len];simp
  .exact s.2.shape _ _ h6
 .obtain⟨f,nc,aa,af,h⟩:=mh (t:=o.type) E hd rfl (by omega) (by omega) q3 o1
  let w0:AJ:={w with drawn:=w.drawn+1}
  have M:B9 fr F σ (H.set i .dead) w0:=(r.sim.kill i).heap rfl;have e0:Qm fr F w F w0:=Qm.heap rfl rfl rfl rfl (Nat.le_succ _);have ai:LR F σ w0 (KX b u (n+1)).flatten (e++vs):=by
   rw[m9,Xt];exact(o2.append q4).mono (Cx.heap (w:=w) (w':=w0) rfl)
  have W:∀v∈e++vs,QB v:=λv hv=>by rcases VD.1 hv with q|q;exact o3 v q;exact R v q
  have s1:=M.alloc (x:=.wins t b u (n+1)) (obj:=.cells ((e++vs)++f).toArray t) ⟨(e++vs)++f,Q9 _ _,(Y9 (by rw[m9];exact nJ z L) ai W).mono ((Qm.alloc (fr:=fr) _ M.roLt M.frLt).ext σ _)⟩;have ah:Qm fr F w0 F (w0.alloc (.cells ((e++vs)++f).toArray t)):=Qm.alloc _ M.roLt M.frLt;refine⟨_,_,F,[AC w.heap.size],YN ho hc a.eval (by rw[ex,e1];exact h),.inr ⟨w.heap.size,0,nc,t,(e++vs++f).length,?_,rfl,λ_=>by simp,aa,?_,?_⟩,s1,e0.trans ah⟩
  .rw[<- r.sim.len];simp
  .have:=Q9 w0 (.cells ((e++vs)++f).toArray t);unfold World.shape?;rw[show w.heap.size=w0.heap.size from rfl,this];simp
  .simp only[X4,af,ae,G,Xx];omega
theorem p9{ro':Nat->Prop}{i n j:Nat}{v:AL}(s:B9 fr ro σ H w)(hσ:∀c,σ[i]?=AC (AC c)->ro' c)(g:∀c,ro c->ro' c)(hH:H[i]?=AC (.row t 1 es))(E:j*n+n<=es.length)
  (h:VR ro σ w (.osl i (j*n) n 1) v):VR ro' [] w (.rsl 1 ((es.drop (j*n)).take n)) v:=by
 have a:((es.drop (j*n)).take n).length=n:=by simp;omega
 rcases h with⟨rfl,rfl⟩|⟨c,p,e,F,m,f,rfl,y,⟨u,_⟩,z,B⟩
 .exact⟨AF,0,by rw[a],by rw[a];exact XU _,.inl (VJ.1 a)⟩
 .refine⟨_,e,by rw[a],by rw[a];exact u,?_⟩;by_cases r:n=0
  .exact .inl (VJ.1 (a.trans r))
  .obtain rfl:=y (by omega);obtain⟨l,k,x⟩:=s.blk i _ _ f hH;have q:=(YD (pre:=[]) (by simpa using k) x).keep (ro':=ro') (σ':=[]) (w':=w) ⟨g,λ_ _=>rfl,λ_ _ q=>q,λ_ _ q=>q⟩ rfl;refine .inr ⟨c,_,rfl,hσ c f,?_⟩;have d:=(q.drop (j*n)).take n;simpa using d
def PK(l:AA α)(n c:Nat):AA (AA α):=(List.range c).map λj=>(l.drop (j*n)).take n
theorem qU{ro':Nat->Prop}{i n t d:Nat}{es:AA (AA A)}(s:B9 fr ro σ H w)(hσ:∀c,σ[i]?=AC (AC c)->ro' c)(hs:∀c,ro c->ro' c)(hH:H[i]?=AC (.row t 1 es)):
  ∀(l:AA Nat) (off:Nat),(∀j∈l,j*n+n<=es.length)->RR ro σ w d 1 (l.map λj=>[.osl i (j*n) n 1]) off->RR ro' [] w d 1 (l.map λj=>[.rsl 1 ((es.drop (j*n)).take n)]) off
 |[],_,_,_=>trivial
 |j::l,off,hl,h=>by
  obtain⟨_,⟨⟨v,h2,h3,h4⟩,_⟩,h6⟩:=h;exact⟨rfl,⟨⟨v,h2,h3,p9 s hσ hs hH (hl j (by simp)) h4⟩,trivial⟩,qU s hσ hs hH l (off+1) (λj hj=>hl j (by simp[hj])) h6⟩
theorem wB{x s i b t1 n c:Nat}(hl:c*n<=l.length)(hi:Nat.ble x i=AE)(hb:Nat.ble x b=AE)(Q:lk env s=.osl i 0 c 1)(hH:H[i]?=AC (.wins t b n c))(f:H[b]?=AC (.row t1 1 (l.map e))):
  Le x env H (up env s (.rsl 1 ((PK l n c).map (Qw 1 e)))) ((H.set b .dead).set i .dead):=by
 intro fr P σ N a w r;have y:b≠i:=by rintro rfl;rw[hH]at f;cases f
 obtain⟨g,R,E,G⟩:=r.sim.shutL (l:=[b,i]) (by simp[y]) (by
  intro j u;simp at u;rcases u with rfl|rfl
  .exact⟨_,f,rfl⟩
  .exact⟨_,hH,rfl⟩)
 refine⟨g,σ,⟨R,?_,r.size,r.defers⟩,E,rfl⟩;have ext:Cx P σ w g σ w:=⟨E,λ_ _=>rfl,λ_ _ q=>q,λ_ _ q=>q⟩;intro k;simp only[lk];by_cases q:k=s
 .subst q;rw[VF];have h:=r.env k;rw[Q]at h;have T:(PK l n c).map (Qw 1 e)=(List.range c).map λj=>[A.rsl 1 ((((l.map e).drop (j*n)).take n))]:=by
   simp[PK,Qw,List.map_drop,List.map_take]
  rw[T];rcases h with⟨z,h⟩|⟨d,p,F,t',m,J,h,M,⟨Y,V⟩,h4,h5⟩
  .subst z;exact⟨AF,0,h,XU _,.inl rfl⟩
  .refine⟨_,F,by simpa using h,by simpa using Y,?_⟩;by_cases O:c=0
   .left;subst O;rfl
   .right;obtain rfl:=M (by omega);obtain⟨lv,L,W⟩:=r.sim.blk i _ _ J hH;refine⟨d,0,by simp,G i (by simp) d J,?_⟩;refine qU r.sim (G b (by simp)) E f (List.range c) 0 ?_ (YD (pre:=[]) (by simpa using L) W);intro j u;have B:j<c:=by simpa using u
    rw[X3];refine XW ?_ hl;have:=XD n (show j+1<=c from B)
    rwa [XB,Nat.one_mul]at this
 .have:Nat.beq k s=false:=by
   rw[VM];intro X;exact q (XR X)
  rw[this];exact(r.env k).mono ext
theorem sO{e k:Nat}(E1:∀w,(underlying T).run P w=.ok (.slice e) w)(E2:∀w,(sizeOf e).run P w=.ok k w){ad:AB Addr}{n cap:Nat}{y z:Int}(a:n<=cap)(f:0<=y)(g:y<=z)(h:z<=n):
  (Instr.sliceAt T (.slice ad n cap) (AC (.int .i64 y)) (AC (.int .i64 z)) (AC (.int .i64 z))).run P w=.ok (.slice (if z.toNat=y.toNat then ad else ad.map (·.add (y.toNat*k))) (z.toNat-y.toNat) (z.toNat-y.toNat)) w:=by
 have d:(Instr.sliceBounds AE n cap (AC (.int .i64 y)) (AC (.int .i64 z)) (AC (.int .i64 z))).run P w=.ok (y.toNat,z.toNat,z.toNat) w:=by
  simp only[Instr.sliceBounds,Vn,Vp,Result.andThen,Ym (show 0<=z by omega) (show z<=(cap:Int)by omega),Ym (show 0<=z by omega) (show z<=(z.toNat:Int)by omega),Ym f (show y<=(z.toNat:Int)by omega)]
 simp only[Instr.sliceAt,Vn,E1,Result.andThen,Instr.slice,d,E2,Vp]
theorem yG{k b:Nat}{x lo hi s:Operand}{r:AA α}{c d:Int}(h:E_ l c d=AC r)(E1:∀w,(underlying T).run P w=.ok (.slice et) w)(E2:∀w,(sizeOf et).run P w=.ok k w)
  (G:o.op=.slice T x (AC lo) (AC hi) (AC s):=by rfl)(hx:Bu env x=.osl b 0 l.length k:=by rfl)(h0:Bu env lo=.int .i64 c:=by rfl)(h1:Bu env hi=.int .i64 d:=by rfl)(h2:Bu env s=.int .i64 d:=by rfl):
  Bz P o env H (.osl b (0+Int.toNat c) (Int.toNat d-Int.toNat c) k):=by
 intro Q R σ N a w r;obtain⟨t,u,L,_⟩:=Pb h;have B:=Qn r x;rw[hx]at B;rcases B with⟨i,g⟩|⟨f,p,cap,J,m,i,g,O,⟨M,V⟩,F,j⟩
 .have e:=sO (P:=P) (w:=w) E1 E2 (ad:=AF) (n:=0) (cap:=0) (y:=c) (z:=d) (XU 0) t u (by omega);refine⟨_,by simp only[execOp,G,g,Vn,Xk,Xj,QC r h0,QC r h1,QC r h2,e,Result.andThen,Vp];rfl,?_⟩;left;have:d.toNat-c.toNat=0:=by omega
  simp[this]
 .have e:=sO (P:=P) (w:=w) E1 E2 (ad:=AC ⟨f,p,AF⟩) (n:=l.length) (cap:=cap) (y:=c) (z:=d) M t u L;refine⟨_,by simp only[execOp,G,g,Vn,Xk,Xj,QC r h0,QC r h1,QC r h2,e,Result.andThen,Vp];rfl,?_⟩;right;by_cases E:d.toNat=c.toNat
  .refine⟨f,p,d.toNat-c.toNat,J,m,i,by simp[E],λq=>by omega,⟨XU _,by omega⟩,F,?_⟩;refine XW (XD k ?_) j;omega
  .refine⟨f,p+c.toNat*k,d.toNat-c.toNat,J,m,i,by simp[E,Jz],λq=>?_,⟨XU _,by omega⟩,F,?_⟩
   .rw[O (by omega)];simp
   .refine XW (XD k ?_) j;omega
end
def ob(P:AK)(i:Nat):String:=match P.funcs[i]? with|some f=>f.name|none=>""
theorem lX{f:FuncId}{B:Func}(d:(ob P f=="runtime.NumGoroutine")=AD)(h:P.funcs[f]?=AC {B with name:=ob P f}):Go.Proofs.Bears P f B:=⟨_,d,h⟩
def uT(P:AK)(t:Nat):Nat:=match P.underlying t with|some (.slice e)=>e|_=>0
def oO:A->AL
 |.int k n=>.int k n
 |.bool b=>.bool b
 |.str _=>.string ⟨#[]⟩
 |.rsl _ _=>.slice AF 0 0
 |.nils=>.slice AF 0 0
 |.nilp=>.pointer AF
 |.nilm=>.map AF
 |.nilif=>.nilIface
 |_=>.nilFunc
def zA:A->AL
 |.agg r=>.agg (r.map oO).toArray
 |a=>oO a
def kL(P:AK)(F:AA (Nat×AA (Nat×Nat)))(T:Fb)(Z:PC)(w:AJ):=
 (F.map λe=>(underlying e.1).run P w,F.map λe=>(P.fieldsOf e.1).toList.map λf=>(f.offset,(sizeOf f.type).run P w),
  T.ty.agg.map λe=>((isAgg e.1).run P w,(sizeOf e.1).run P w),T.ty.zer.map λe=>(zeroValue e.1).run P w,
  T.al.map λe=>(zeroValue e.1).run P w,T.sl.map λt=>(underlying t).run P w,Z.sl.map λe=>((underlying e.1).run P w,(sizeOf e.2.1).run P w))
def kR(P:AK)(F:AA (Nat×AA (Nat×Nat)))(T:Fb)(Z:PC)(w:AJ):=
 (F.map λe=>Result.ok (TypeDesc.struct (P.fieldsOf e.1)) w,F.map λe=>e.2.map λx=>(x.1,Result.ok x.2 w),
  T.ty.agg.map λe=>(Result.ok e.2.1 w,Result.ok e.2.2 w),T.ty.zer.map λe=>Result.ok (zA (.agg e.2.1)) w,
  T.al.map λe=>Result.ok (zA e.2) w,T.sl.map λt=>Result.ok (TypeDesc.slice (uT P t)) w,Z.sl.map λe=>(Result.ok (TypeDesc.slice e.2.1) w,Result.ok e.2.2 w))
def kT(F:AA (Nat×AA (Nat×Nat)))(T:Fb):Bool:=
 ZX F T.ty.fld&&T.ty.zer.all (λe=>dE (.agg e.2.1) (zA (.agg e.2.1))&&F.contains (e.1,e.2.2))&&T.al.all λe=>dE e.2 (zA e.2)&&Yo e.2&&(Yf e.2).all Yr
theorem PY{α β:Type}{L:AA α}{f g:AJ->α->β}(h:∀w,L.map (f w)=L.map (g w)){e:α}(he:e∈L)(w:AJ):f w e=g w e:=List.map_inj_left.1 (h w) e he
theorem PL.ofK{P:AK}:∀{fs:AA Field} {pl:AA (Nat×Nat)},(∀w:AJ,fs.map (λf=>(f.offset,(sizeOf f.type).run P w))=pl.map λx=>(x.1,Result.ok x.2 w))->PL P fs pl
 |[],[],_=>.nil
 |[],_::_,h=>by cases h default
 |_::_,[],h=>by cases h default
 |f::fs,(a,n)::pl,h=>by
  have h1:=λw=>List.cons.inj (h w);have e:=λw=>Prod.mk.inj (h1 w).1;obtain rfl:f.offset=a:=(e default).1;exact .cons (λw=>(e w).2) (PL.ofK λw=>(h1 w).2)
section
variable {P:AK} {F:AA (Nat×AA (Nat×Nat))} {T:Fb} {Z:PC}
theorem xN(h:kL P F T Z=kR P F T Z):∀e∈F,T9 P e.1 e.2:=λe he=>
 ⟨_,λw=>by simpa using PY (f:=λw e=>(underlying e.1).run P w) (λw=>(Prod.mk.inj (congrFun h w)).1) he w,PL.ofK λw=>PY (f:=λw e=>(P.fieldsOf e.1).toList.map λf=>(f.offset,(sizeOf f.type).run P w)) (λw=>(Prod.mk.inj (Prod.mk.inj (congrFun h w)).2).1) he w⟩
theorem IA.ofK(h:kL P F T Z=kR P F T Z)(k:kT F T=AE):IA P T:=by
 have d:=xN h;simp only[kT,XX,Xu]at k;refine⟨⟨ue d k.1.1,λe a=>?_,λe a=>?_⟩,λe a=>?_,λe a=>?_⟩
 .have:=PY (f:=λw e=>((isAgg e.1).run P w,(sizeOf e.1).run P w)) (λw=>(Prod.mk.inj (Prod.mk.inj (Prod.mk.inj (congrFun h w)).2).2).1) a;exact⟨λw=>(Prod.mk.inj (this w)).1,λw=>(Prod.mk.inj (this w)).2⟩
 .have:=PY (f:=λw e=>(zeroValue e.1).run P w) (λw=>(Prod.mk.inj (Prod.mk.inj (Prod.mk.inj (Prod.mk.inj (congrFun h w)).2).2).2).1) a;have q:=k.1.2 e a;exact⟨⟨_,this,HI q.1⟩,d _ (List.contains_iff_mem.1 q.2)⟩
 .have:=PY (f:=λw e=>(zeroValue e.1).run P w) (λw=>(Prod.mk.inj (Prod.mk.inj (Prod.mk.inj (Prod.mk.inj (Prod.mk.inj (congrFun h w)).2).2).2).2).1) a;have q:=k.2 e a;exact⟨⟨_,this,HI q.1.1⟩,q.1.2,Xu.2 q.2⟩
 .exact⟨_,PY (f:=λw t=>(underlying t).run P w) (λw=>(Prod.mk.inj (Prod.mk.inj (Prod.mk.inj (Prod.mk.inj (Prod.mk.inj (Prod.mk.inj (congrFun h w)).2).2).2).2).2).1) a⟩
theorem Kx.ofK(h:kL P F T Z=kR P F T Z)(k:∀f∈Z.fn,∀(a:Array AL) (w:AJ),(callFunc f a).run P w=.ok (.enter f a) w):Kx P Z:=⟨λe he=>by
 have:=PY (f:=λw e=>((underlying e.1).run P w,(sizeOf e.2.1).run P w)) (λw=>(Prod.mk.inj (Prod.mk.inj (Prod.mk.inj (Prod.mk.inj (Prod.mk.inj (Prod.mk.inj (congrFun h w)).2).2).2).2).2).2) he;exact⟨λw=>(Prod.mk.inj (this w)).1,λw=>(Prod.mk.inj (this w)).2⟩,k⟩
theorem vM{L:AA Nat}(h:(λ(a:Array AL) (w:AJ)=>L.map λf=>(callFunc f a).run P w)=λa w=>L.map λf=>.ok (.enter f a) w):∀f∈L,∀(a:Array AL) (w:AJ),(callFunc f a).run P w=.ok (.enter f a) w:=
 λf hf a=>PY (f:=λw f=>(callFunc f a).run P w) (λw=>congrFun (congrFun h a) w) hf
end
section
variable {P:AK}
theorem CN.c{f:Field}{fs:AA Field}{h a g:Nat}{d e:AA AL->Prop}(j:∀h,IK P f.type (h+1) 1 AD d)(i:CN P fs (h+1) (a+1) g e)(k:Nat.beq f.offset a=true:=by rfl)(hn:f.name≠"_":=by decide):
  CN P (f::fs) (h+1) a (1+g) (λl=>∃l1 l2,l=l1++l2/\d l1/\e l2):=CN.cons k hn (j h) (λ_=>rfl) i
theorem RF.c1{n:Nat}{T:Type}{e:T->AA A}{wf:T->Prop}{f:Field}{fs:AA Field}{L:Nat}{T2:Type}{d:T2->AA A}{a:T2->Prop}(h:RB P n f.type T e wf)(r:RF P n fs (off+1) L T2 d a)(g:f.offset=off:=by rfl)(hk:P.cellsOf f.type=1:=by kernel_rfl):
  RF P n (f::fs) off L (T×T2) (λp=>e p.1++d p.2) (λp=>wf p.1/\a p.2):=RF.cons g hk h r
end
variable {β:Type}
@[reducible] def Kp(P:AK)(F:AB β)(f:FuncId)(args:AA A)(H:Qc)(w:β->A)(H1:β->Qc):Prop:=∀r,F=AC r->C P f args H (RQ w H1 r)
theorem Kp.b{β:Type}{F:AB β}{f:FuncId}{fn:Func}{c:Code}{N:Nat}{args:AA A}{w:β->A}{H1:β->Qc}(hf:P.funcs[f]?=AC fn)(hb:fn.body=AC c)(hN:fn.ntmps=N)(hA:Nat.ble args.length N=AE)
  (h:∀r,F=AC r->TC P H.length N c (PS 0 args) H (M2 P H.length fn (RQ w H1 r))):Kp P F f args H w H1:=λr e=>QK hf hb hN hA (h r e)
variable {env':Env}{rows:AA (AA Int)}
section
variable {P:AK} {o:AM} {env:Env} {H:Qc} {fr ro:Nat->Prop} {σ:CD} {w:AJ}
def YC(b:Nat)(rows:AA (AA α)):AA (AA A):=rows.mapIdx λj r=>[A.osl (b+j) 0 r.length 1]
theorem tg(b:Nat)(rows:AA (AA α)):(YC b rows).length=rows.length:=by simp[YC]
theorem Jy{α:Type}{b i:Nat}{rows:AA (AA α)}{r:AA α}(h:rows[i]?=AC r):(YC b rows)[i]?=AC [.osl (b+i) 0 r.length 1]:=by simp[YC,h]
theorem rU(b:Nat)(rows:AA (AA α))(r:AA α):YC b (rows++[r])=YC b rows++[[.osl (b+rows.length) 0 r.length 1]]:=by simp[YC,List.mapIdx_append]
theorem rV{α:Type}{b i:Nat}{rows:AA (AA α)}{r a:AA α}(h:rows[i]?=AC r)(d:r.length=a.length):YC b (rows.set i a)=YC b rows:=by
 apply List.ext_getElem?;intro j;simp only[YC,List.getElem?_mapIdx]
 grind
theorem me{α:Type}{ρ:Nat->Nat}:∀{rows:AA (AA α)} {b b':Nat},(∀j,j<rows.length->ρ (b+j)=b'+j)->KV ρ (YC b rows)=YC b' rows
 |[],_,_,_=>rfl
 |r::rows,b,b',h=>by
  have e:∀x:Nat,YC x (r::rows)=[A.osl x 0 r.length 1]::YC (x+1) rows:=λx=>by
   simp only[YC,List.mapIdx_cons,Xy];congr 1;apply List.ext_getElem?;intro j;simp only[List.getElem?_mapIdx];have:x+(j+1)=x+1+j:=by omega
   rw[this]
  have a:ρ b=b':=by simpa using h 0 (by simp)
  rw[e b,e b',KV,me (b':=b'+1) (λj d=>by have:=h (j+1) (by simpa using d);rw[show b+1+j=b+(j+1)from by omega,this];omega)];simp only[Fd,Y6,a]
def G7(b:Nat)(rows:AA (AA α))(m:Nat):AA (AA A):=YC b rows++List.replicate m [.nils]
theorem yg(b:Nat)(m:Nat):G7 (α:=α) b [] m=List.replicate m [.nils]:=rfl
theorem rT{α:Type}{b i m:Nat}{rows:AA (AA α)}{r:AA α}(h:rows[i]?=AC r):(G7 b rows m)[i]?=AC [.osl (b+i) 0 r.length 1]:=by
 have:=Jy (b:=b) h;have a:=(XM.1 this).1;simp only[G7,XN a,this]
theorem w6{α:Type}{b m:Nat}{rows:AA (AA α)}:(G7 b rows (m+1))[rows.length]?=AC [.nils]:=by
 simp[G7,tg]
theorem yh{α:Type}{b m:Nat}{rows:AA (AA α)}{r:AA α}:(G7 b rows (m+1)).set rows.length [.osl (b+rows.length) 0 r.length 1]=G7 b (rows++[r]) m:=by
 simp[G7,rU,tg,Xl]
theorem y9{α:Type}{b m:Nat}{rows:AA (AA α)}{r a:AA α}(d:r.length=a.length):G7 b (rows++[r]) m=G7 b (rows++[a]) m:=by
 simp[G7,rU,d]
def Q0(t:Nat)(rows:AA (AA Int)):Qc:=rows.map λr=>.row t 1 (r.map (Qe .i64))
theorem YK{i:Nat}(pre:Qc){r:AA Int}(h:rows[i]?=AC r):(pre++Q0 t rows)[pre.length+i]?=AC (.row t 1 (r.map (Qe .i64))):=by
 rw[XO (by omega)];simp[Q0,h]
theorem m7{i:Nat}(pre:Qc)(r:AA Int):(pre++Q0 t rows).set (pre.length+i) (.row t 1 (r.map (Qe .i64)))=pre++Q0 t (rows.set i r):=by
 rw[List.set_append_right _ _ (by omega)];simp[Q0,List.map_set]
theorem yz(t:Nat)(rows:AA (AA Int))(r:AA Int):Q0 t (rows++[r])=Q0 t rows++[.row t 1 (r.map (Qe .i64))]:=by simp[Q0]
theorem sM(ρ:Nat->Nat)(t:Nat)(rows:AA (AA Int)):(Q0 t rows).map (Q1 ρ)=Q0 t rows:=by
 simp only[Q0,List.map_map];rfl
theorem rW{a:B8}{m:Nat}{r l:AA Int}(d:r.length=l.length):
  ([a,.rowr t 1 (G7 2 (rows++[r]) m)]++Q0 u (rows++[r])).set (2+rows.length) (.row u 1 (l.map (Qe .i64)))=[a,.rowr t 1 (G7 2 (rows++[l]) m)]++Q0 u (rows++[l]):=by
 have:=m7 (t:=u) (i:=rows.length) [a,.rowr t 1 (G7 2 (rows++[r]) m)] (rows:=rows++[r]) l;rw[show[a,B8.rowr t 1 (G7 2 (rows++[r]) m)].length=2 from rfl]at this;rw[this,y9 d];simp
theorem w7{a:B8}{i:Nat}{r l:AA Int}(h:rows[i]?=AC r)(d:r.length=l.length):
  ([a,.rowr t 1 (YC 2 rows)]++Q0 u rows).set (2+i) (.row u 1 (l.map (Qe .i64)))=[a,.rowr t 1 (YC 2 (rows.set i l))]++Q0 u (rows.set i l):=by
 rw[rV h d];exact m7 (i:=i) [a,.rowr t 1 (YC 2 rows)] l
theorem yi{a x:B8}{i:Nat}{r l:AA Int}(h:rows[i]?=AC r)(d:r.length=l.length):
  ([a,.rowr t 1 (YC 3 rows),x]++Q0 u rows).set (3+i) (.row u 1 (l.map (Qe .i64)))=[a,.rowr t 1 (YC 3 (rows.set i l)),x]++Q0 u (rows.set i l):=by
 rw[rV h d];exact m7 (i:=i) [a,.rowr t 1 (YC 3 rows),x] l
def Zh(env:Env):Env->Prop
 |[]=>True
 |(s,a)::r=>lk env s=a/\Zh env r
theorem Zh.ok{env:Env}:∀{env':Env},Zh env env'->∀s,lk env' s=.any\/lk env' s=lk env s
 |[],_,s=>.inl rfl
 |(k,a)::r,h,s=>by
  simp only[lk];by_cases q:s=k
  .subst q;rw[VF];exact .inr h.1.symm
  .have:Nat.beq s k=false:=by rw[VM];intro d;exact q (XR d)
   rw[this];exact Zh.ok h.2 s
theorem Jb{h0:Nat}(h:Zh env env'):Le h0 env H env' H:=Le.env h.ok
def PM(n:Nat):AA Nat:=0::1::(2+n)::(List.range n).map (2+ ·)
def PN(n:Nat):AA Nat:=0::1::(List.range n).map (3+ ·)
theorem nB(k n:Nat):((List.range n).map (k+ ·)).Nodup:=by
 show List.Pairwise _ _;rw[List.pairwise_map];exact List.nodup_range.imp λh q=>h (by omega)
theorem wV{a x:B8}(h:∀ρ,Q1 ρ a=a)(f:∀ρ,Q1 ρ x=x)(hE:H9 (CF (PM rows.length) (2+rows.length+1)) env env'):
  Le 0 env (([a,.rowr t 1 (YC 2 rows)]++Q0 u rows)++[x]) env' ([a,.rowr t 1 (YC 3 rows),x]++Q0 u rows):=by
 have d:(([a,.rowr t 1 (YC 2 rows)]++Q0 u rows)++[x]).length=2+rows.length+1:=by simp[Q0];omega
 refine lE (PM rows.length) rfl ?_ ?_ (by rw[d];exact hE)
 .rw[d,Xf,sM];have e:KV (CF (PM rows.length) (2+rows.length+1)) (YC 3 rows)=YC 2 rows:=me λj g=>by
   have:(PM rows.length)[3+j]?=AC (2+j):=by
    rw[show 3+j=j+1+1+1 from by omega];simp[PM,g]
   simp[CF,this]
  have k:Q1 (CF (PM rows.length) (2+rows.length+1)) (.rowr t 1 (YC 3 rows))=.rowr t 1 (YC 2 rows):=congrArg (B8.rowr t 1) e;simp only[Vk,Vl,h,f,k];simp only[PM,Vk,List.map_map];apply List.ext_getElem?;intro i
  match i with
  |0=>rfl
  |1=>rfl
  |2=>simp[Q0];rw[show 2+rows.length=rows.length+1+1 from by omega];simp
  |i+3=>
   simp only[XG,Xp,Xf,Vk,Vl,VK,Vi];by_cases q:i<rows.length
   .simp[q,Q0];rw[show 2+i=i+1+1 from by omega];simp only[XG];rw[XN (by simpa using q)];simp[q]
   .simp[Q0,q]
 .rw[show PM rows.length=0::1::(2+rows.length)::(List.range rows.length).map (2+ ·)from rfl];simp only[List.nodup_cons];exact⟨by grind,by grind,by grind,nB 2 _⟩
theorem x_{a x:B8}(f:∀ρ,Q1 ρ a=a)(hE:H9 (CF (PN rows.length) (3+rows.length)) env env'):
  Le 0 env ([a,.rowr t 1 (YC 3 rows),x]++Q0 u rows) env' ([a,.rowr t 1 (YC 2 rows)]++Q0 u rows):=by
 have d:([a,.rowr t 1 (YC 3 rows),x]++Q0 u rows).length=3+rows.length:=by simp[Q0];omega
 refine lE (PN rows.length) rfl ?_ ?_ (by rw[d];exact hE)
 .rw[d,Xf,sM];have e:KV (CF (PN rows.length) (3+rows.length)) (YC 2 rows)=YC 3 rows:=me λj g=>by
   have:(PN rows.length)[2+j]?=AC (3+j):=by
    rw[show 2+j=j+1+1 from by omega];simp[PN,g]
   simp[CF,this]
  have h:Q1 (CF (PN rows.length) (3+rows.length)) (.rowr t 1 (YC 2 rows))=.rowr t 1 (YC 3 rows):=congrArg (B8.rowr t 1) e;simp only[Vk,Vl,f,h];simp only[PN,Vk,List.map_map];apply List.ext_getElem?;intro i
  match i with
  |0=>rfl
  |1=>rfl
  |i+2=>
   simp only[XG,Xp,Xf,Vk,Vl,VK,Vi];by_cases q:i<rows.length
   .simp[q,Q0];rw[show 3+i=i+1+1+1 from by omega];simp[q]
   .simp[Q0,q]
 .rw[show PN rows.length=0::1::(List.range rows.length).map (3+ ·)from rfl];simp only[List.nodup_cons];exact⟨by grind,by grind,nB 3 _⟩
theorem wC{k:Nat}{x:Operand}{u i:IntKind}{n:Int}{zv:α}{z:AL}{a:A}(j:mk n zv=AC l)(E:Yg P T et k)(J:∀w,(zeroValue et).run P w=.ok z w)(f:ZR a z)
  (G:Yo a=AE)(s:Yf a=e zv)(F:(Yf a).all Yr=AE)(d:Nat.beq (e zv).length k=AE)
  (O:o.op=.makeSlice T x y:=by rfl)(hx:Bu env x=.int u n:=by rfl)(hy:Bu env y=.int i n:=by rfl):
  Do P o env H (.osl H.length 0 l.length k) (H++[.rowr et k (l.map e)]):=by
 intro R B σ N act w r;obtain⟨Q,p,m,L,h,M,V⟩:=mF j E J f G s F d O hx hy r;have g:=r.sim.allocRowr (t:=et) (rest:=[]) h (m.mono ⟨λ_ q=>q,λ_ _=>rfl,λ_ _ q=>q,λ_ _ q=>by cases q⟩) L;rw[Vh]at g;refine⟨_,_,B,[AC w.heap.size],p,.inr ⟨w.heap.size,0,l.length,et,Q.length,?_,rfl,λ_=>by simp,⟨XU _,by omega⟩,?_,by rw[M,Xx];exact XU _⟩,g,Qm.alloc _ r.sim.roLt r.sim.frLt⟩
 .rw[<- r.sim.len];simp
 .unfold World.shape?;rw[Q9];simp
theorem QgZ{n i k e f:Nat}{x:Operand}{d:AA (AA A)}{c vs E:AA A}{v:A}(ho:o.op=.store t x y)(Q:Bu env x=.ptr i off)(hH:H[i]?=AC (.rowr T k es))(hs:∀w,(sizeOf t).run P w=.ok n w)
  (p:off=e*k+f)(V:es[e]?=AC c)(s:Bu env y=v)(hk:Yo v=AE)(W:Yf v=vs)(O:vs.length=n)(G:vs.all Yr=AE)(hf:Nat.ble (f+n) k=AE)
  (z:splice c f vs=E)(q:es.set e E=d):
  Hx P o env H (H.set i (.rowr T k d)):=by
 intro fr X σ N a w r;have g:=Qn r x;rw[Q]at g;obtain⟨b,g,h2⟩:=g;have M:=Qn r y;rw[s]at M;obtain⟨m,h4,j⟩:=M.cells hk;rw[W]at j;obtain⟨l,B,J⟩:=r.sim.blk i _ _ g hH;have R:f+n<=k:=by simp_all
 have hm:m.length=n:=by rw[j.length,O]
 have Y:e<es.length:=(by grind);have L:off+n<=l.length:=by
  have:=J.length;have h6:=XD k Y
  grind
 have F:=Yb (P:=P) off 0 B (by omega) (j.plain G);have h:=r.sim.set (x':=.rowr T k d) (obj:=.cells (splice l off m).toArray T (0,0)) g hH rfl
  (λy s=>Jq B (Ya (by omega)) y s)
  (λex u=>⟨_,u,by
   subst q z p;exact(J.splice V j (j.plain G) (by omega)).mono ex⟩)
 refine⟨_,X,[],?_,by grind,h.2⟩
 simp_all[storeVar,execOp,Instr.storeAt,Instr.sureAddr]
theorem xM{ro':Nat->Prop}{i n:Nat}{v:AL}(s:B9 fr ro σ H w)(hσ:∀c,σ[i]?=AC (AC c)->ro' c)(d:∀c,ro c->ro' c)(hH:H[i]?=AC (.row t 1 es))(a:es.length=n)
  (h:VR ro σ w (.osl i 0 n 1) v):VR ro' [] w (.rsl 1 es) v:=by
 have:=p9 (j:=0) (n:=n) s hσ d hH (by omega) (by simpa using h);simpa[<- a]using this
theorem o0{ro':Nat->Prop}{b t d:Nat}{α:Type}{e:α->AA A}(s:B9 fr ro σ H w)(f:∀c,ro c->ro' c):
  ∀(rows:AA (AA α)) (k a:Nat),(∀j r,rows[j]?=AC r->H[b+(k+j)]?=AC (.row t 1 (r.map e))/\ ∀c,σ[b+(k+j)]?=AC (AC c)->ro' c)->
   RR ro σ w d 1 (YC (b+k) rows) a->RR ro' [] w d 1 (rows.map λr=>[.rsl 1 (r.map e)]) a
 |[],_,_,_,_=>trivial
 |r::rows,k,a,hl,h=>by
  have e1:YC (b+k) (r::rows)=[A.osl (b+k) 0 r.length 1]::YC (b+(k+1)) rows:=by
   simp only[YC,List.mapIdx_cons,Xy];congr 1;apply List.ext_getElem?;intro j;simp only[List.getElem?_mapIdx];have:b+k+(j+1)=b+(k+1)+j:=by omega
   rw[this]
  rw[e1]at h;obtain⟨_,⟨⟨v,n,i,g⟩,_⟩,l⟩:=h;obtain⟨u,p⟩:=hl 0 r rfl;refine⟨rfl,⟨⟨v,n,i,xM s p f u (by simp) g⟩,trivial⟩,o0 (b:=b) (t:=t) s f rows (k+1) (a+1) (λj q m=>?_) l⟩;have:=hl (j+1) q m
  grind
theorem wA{V s i b t1 c:Nat}{rows:AA (AA α)}(f:rows.length=c)(aa:i<b)(R:lk env s=.osl i 0 c 1)(hH:H[i]?=AC (.rowr t 1 (YC b rows)))
  (L:∀j r,rows[j]?=AC r->H[b+j]?=AC (.row t1 1 (r.map e))):
  Le V env H (up env s (.rsl 1 (rows.map (Qw 1 e)))) (ky H (i::(List.range c).map (b+ ·))):=by
 intro fr Q σ N a w r;obtain⟨g,T,y,E⟩:=r.sim.shutL (l:=i::(List.range c).map (b+ ·)) (by
   rw[List.nodup_cons];exact⟨by simp;omega,nB b c⟩) (by
  intro j J;simp at J;rcases J with rfl|⟨Y,q,rfl⟩
  .exact⟨_,hH,rfl⟩
  .subst f;exact⟨_,L Y _ (XL q),rfl⟩)
 refine⟨g,σ,⟨T,?_,r.size,r.defers⟩,y,rfl⟩;have ext:Cx Q σ w g σ w:=⟨y,λ_ _=>rfl,λ_ _ q=>q,λ_ _ q=>q⟩;intro k;simp only[lk];by_cases q:k=s
 .subst q;rw[VF];have h:=r.env k;rw[R]at h;have W:rows.map (Qw 1 e)=rows.map λr=>[A.rsl 1 (r.map e)]:=by simp[Qw]
  rw[W];rcases h with⟨z,h⟩|⟨d,p,B,t',m,G,h,P,⟨h3,X⟩,h4,h5⟩
  .subst z;exact⟨AF,0,by simpa[f]using h,by simp[f],.inl (by simpa using f)⟩
  .refine⟨_,B,by simpa[f]using h,by simpa[f]using h3,?_⟩;by_cases u:c=0
   .left;simpa[u]using f
   .right;obtain rfl:=P (by omega);obtain⟨lv,M,q2⟩:=r.sim.blk i _ _ G hH;refine⟨d,0,by simp,E i (by simp) d G,?_⟩;refine o0 (b:=b) (t:=t1) r.sim y rows 0 0 (λj x F=>?_) (YD (pre:=[]) (by simpa using M) q2);rw[Xx];refine⟨L j x F,λO n=>E (b+j) ?_ O n⟩;have:=(XM.1 F).1;simp;omega
 .have:Nat.beq k s=false:=by
   rw[VM];intro q';exact q (XR q')
  rw[this];exact(r.env k).mono ext
end
abbrev Ea:=@Ev.bind
abbrev Ec:=@FT.keep
abbrev Ee:=@GZ.cons
abbrev Ef:=@D9.refl
abbrev Eg:=@TC.le
abbrev Eh:=@PL.cons
abbrev Ei:=@DS.done
abbrev Ej:=@Ev.and
abbrev Ek:=@Cc.done
abbrev El:=@GZ.refl
abbrev Em:=@Do.lit
abbrev En:=@RF.cons
abbrev Eo:=@RF.c1
abbrev Ep:=@Le.trans
abbrev Er:=@ZR.int
abbrev Et:=@D9.o
abbrev Eu:=@Le.phantom
abbrev Ew:=@WO.le
abbrev Ex:=@Ev.or
abbrev Ey:=@Ev.eq
abbrev Ez:=@Cc.cont
abbrev EA:=@Ev.iter
abbrev EB:=@Hx.store
abbrev EC:=@Bz.load
abbrev ED:=@Ev.const
theorem Zf.{u,v}{α:Sort u}{β:Sort v}{f:α->β}:∀x,f x=f x:=λ_=>rfl
abbrev Ze.{u,v}{α:Sort u}{β:Type v}:α->AA β:=λ_=>[]
end Go.Sw
