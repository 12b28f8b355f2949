/- The rules by which the code is walked, with what they rest on (part 3). -/
import Derived.Test.YtigaapnlkgbkeaaGreatL2
import Derived.Shelf.Spec.SlicesInsertGrow
import Derived.RangeFuncLeaves
set_option linter.unusedVariables false
set_option linter.unusedSectionVars false
set_option linter.unusedSimpArgs false
namespace Go.Sw
def nxL{T:Type}:List T->T->List T->Prop:=λl x rem=>l=x::rem
def Qhx{S T B:Type}(step:S->T->Option (Ctl S B)):List T->S->Option (Ctl S B)
 |[],s=>some (.cont s)
 |x::l,s=>(step s x).bind λd=>match d with
  |.cont s'=>Qhx step l s'
  |.done b=>some (.done b)
def QdR{S T B:Type}(step:S->Option (List T×Ctl S B)):Nat->S->Option (List T×B)
 |0,_=>none
 |n+1,s=>(step s).bind λp=>match p.2 with
  |.cont s'=>(QdR step n s').bind λq=>some (p.1++q.1,q.2)
  |.done b=>some (p.1,b)
def QfQ{S B:Type}(h1:Nat)(env:Env)(Q:Qx)(d:Ctl S B)(Hp:S->Qc):Qx
 |.normal,env',H'=>∃s,d=.cont s/\Le h1 env' H' [] (Hp s)
 |.exit id,env',H'=>(∃b,d=.done b)/\ ∃H2,Le h1 env' H' [] H2/\Q (.exit id) env H2
 |.ret,env',H'=>(∃b,d=.done b)/\ ∃H2,Le h1 env' H' [] H2/\Q .ret env H2
theorem Qga{S B:Type}{h1:Nat}{env env':Env}{H':Qc}{Q:Qx}{s:S}{d:Ctl S B}{Hp:S->Qc}(e:some (Ctl.cont s)=some d)(h:Le h1 env' H' [] (Hp s)):QfQ h1 env Q d Hp .normal env' H':=⟨s,(Oi e).symm,h⟩
theorem Qf9{S B:Type}{h1:Nat}{env env':Env}{H' H2:Qc}{Q:Qx}{b:B}{d:Ctl S B}{Hp:S->Qc}(e:some (Ctl.done b)=some d)(h:Le h1 env' H' [] H2)(q:Q .ret env H2):QfQ h1 env Q d Hp .ret env' H':=⟨⟨b,(Oi e).symm⟩,H2,h,q⟩
theorem Qd3{P:Program}{h0 N:Nat}{n:Operand}{ps:List Nat}{assign body:Code}{env:Env}{H:Qc}{Q:Qx}{f:FuncId}{caps a:List A}{Hc:Qc}{T S B:Type}{enc:T->List A}{xs:List T}{step:S->T->Option (Ctl S B)}{r:S}{D:Ctl S B}
  (π:List Nat)(Hp:S->Qc)(h:Qhx step xs r=some D)(k:QgZ P f a Hc enc nxL xs)(m:∀x,(enc x).length=ps.length)(G:∀args w,(callFunc f args).run P w=.ok (.enter f args) w)
  (V:Nat.ble h0 H.length=true)(hg:opA env n=.fn (.func f) [] caps)(hargs:caps=Qag (rho π H.length) a)(L:π.map (λp=>H[p]?)=(Hc.map (QK (rho π H.length))).map some)(hπ:π.Nodup)(y:(ps.all λp=>Nat.blt p N)=true)
  (i:Le H.length env (Qct H π) env (Hp r))
  (g:∀s x d,step s x=some d->(∀b,d=.done b->D=.done b)->TC P H.length N assign (Qho ps (enc x) env) (Hp s) λe env1 H1=>e=.normal/\TC P H.length N body env1 H1 (QfQ H.length env Q d Hp))
  (j:∀s,D=.cont s->Q .normal env (Hp s)):TC P h0 N (.rangeFunc n ps.toArray assign body) env H Q:=by
 refine TC.rangeFunc π Hp (λs l=>Qhx step l s=some D) r (by simp_all) hg hargs L hπ y G k m i h ?_ ?_
 .rintro s l x rem t rfl;obtain⟨d,J,t⟩:=Q3 t;refine(g s x d J ?_).mono ?_
  .grind
  .rintro e env1 H1 ⟨M,R⟩;refine⟨M,R.mono ?_⟩;intro O E H2 q;cases O with
   |normal=>
    obtain⟨z,rfl,i⟩:=q;exact⟨Hp z,i,z,t,rfl⟩
   |exit id=>
    obtain⟨_,H3,u,q⟩:=q;exact⟨H3,u,q⟩
   |ret=>
    obtain⟨_,H3,u,q⟩:=q;exact⟨H3,u,q⟩
 .intro s F;exact j s (Oi F).symm
section
variable {T:Type} {X:Ctx T} {P:Program} {h0 N:Nat} {c:Code} {env:Env} {H:Qc} {st:YSt T} {Q:Yk T}
def Qdy{S B:Type}(h0:Nat)(E:S->Env)(Hp:S->Qc)(d:Ctl S B)(rest:List T)(Q:Yk T):Yk T
 |.normal,env,H,st=>∃s,d=.cont s/\Le h0 env H (E s) (Hp s)/\st=.on rest
 |.exit id,env,H,st=>Q (.exit id) env H st
 |.ret,env,H,st=>Q .ret env H st
theorem QgV{S B:Type}{step:S->Option (List T×Ctl S B)}{E:S->Env}{Hp:S->Qc}{m:Nat}{i:S}{j rem:List T}{b:B}(h:QdR step m i=some (j,b))(w:Le h0 env H (E i) (Hp i))
  (body:∀s zs d rest,step s=some (zs,d)->(∀b',d=.done b'->b'=b/\rest=rem)->TCy X P h0 N c (E s) (Hp s) (.on (zs++rest)) (Qdy h0 E Hp d rest Q)):TCy X P h0 N (.loop c) env H (.on (j++rem)) Q:=by
 refine QgW (I:=λn env H t=>∃s f,QdR step n s=some (f,b)/\t=.on (f++rem)/\Le h0 env H (E s) (Hp s)) ?_ ⟨i,j,h,rfl,w⟩;rintro n env H t ⟨s,f,a,rfl,l⟩;cases n with
 |zero=>cases a
 |succ n=>
  obtain⟨⟨zs,d⟩,r,a⟩:=Q3 a;refine QjH l ?_;cases d with
  |cont u=>
   obtain⟨⟨y,G⟩,F,a⟩:=Q3 a;cases a;rw[Vb];refine(body s zs (.cont u) (y++rem) r (λb' e=>by cases e)).mono ?_;rintro x g H' p q;cases x with
   |normal=>
    obtain⟨z,e,k,rfl⟩:=q;cases e;exact⟨n,Xk n,_,_,F,rfl,k⟩
   |exit id=>exact q
   |ret=>exact q
  |done b'=>
   cases a;refine(body s _ (.done b) rem r (λb' e=>by cases e;exact⟨rfl,rfl⟩)).mono ?_;rintro x g H' p q;cases x with
   |normal=>obtain⟨z,e,_⟩:=q;cases e
   |exit id=>exact q
   |ret=>exact q
def kqY(X:Ctx T)(P:Program)(h0 N:Nat):List Kf->Yk T->Yk T
 |[],Q=>Q
 |.seq c::k,Q=>SeqY X P h0 N c (kqY X P h0 N k Q)
 |.blo id::k,Q=>BloY id (kqY X P h0 N k Q)
 |.unr c::k,Q=>λ_ _ _ _=>False
@[reducible] def HdY(X:Ctx T)(P:Program)(h0 N:Nat):Cf->List Kf->Env->Qc->YSt T->Yk T->Prop
 |.code c,k,env,H,st,Q=>TCy X P h0 N c env H st (kqY X P h0 N k Q)
 |.ops all l,k,env,H,st,Q=>WOy X P h0 N all l env H st (kqY X P h0 N k Q)
 |.out x,k,env,H,st,Q=>kqY X P h0 N k Q x env H st
def Qja:Cf->List Kf->Bool
 |.code (.loop _),_=>false
 |.out _,.unr _::_=>false
 |_,_=>true
theorem Qhp{Tx:TyX}(j:QaM P Tx){c i:Cf}{k f:List Kf}{env a:Env}{H H':Qc}(h:QdJ Tx h0 N c k env H=some (i,f,a,H'))(d:Qja c k=true)(g:HdY X P h0 N i f a H' st Q):HdY X P h0 N c k env H st Q:=by
 unfold QdJ at h;split at h
 .cases h;exact TCy.seq g
 .cases h;exact TCy.block g
 .cases d
 .cases h;exact TCy.skip g
 .cases h;exact TCy.ret g
 .cases h;exact TCy.exit g
 .cases h;exact TCy.region g
 .grind[TCy.cond,QC]
 .cases h;exact WOy.nil g
 .split at h
  .rename_i q;cases h;exact WOy.step (Qht j q (WO.nil ⟨rfl,g⟩))
  .cases h
 .cases h;exact g
 .cases h;exact g
 .cases h;exact g
 .cases h;exact g
 .split at h
  .rename_i q;have e:=XK q;show(bif Nat.beq _ _ then _ else _)
   grind
  .show(bif Nat.beq _ _ then _ else _)
   grind
 .cases h;exact g
 .cases d
 .cases d
 .cases d
 .cases h
def QgA(Tx:TyX)(h0 N:Nat):Nat->Cf->List Kf->Env->Qc->Option (Cf×List Kf×Env×Qc)
 |0,c,k,env,H=>some (c,k,env,H)
 |n+1,c,k,env,H=>match Qja c k with
  |true=>(match QdJ Tx h0 N c k env H with
   |some (c',k',env',H')=>QgA Tx h0 N n c' k' env' H'
   |none=>none)
  |false=>none
theorem QcK{Tx:TyX}(hT:QaM P Tx):∀(n:Nat) {c c':Cf} {k k':List Kf} {env env':Env} {H H':Qc},QgA Tx h0 N n c k env H=some (c',k',env',H')->HdY X P h0 N c' k' env' H' st Q->HdY X P h0 N c k env H st Q
 |0,c,c',k,k',env,env',H,H',h,g=>by cases h;exact g
 |n+1,c,c',k,k',env,env',H,H',h,g=>by
  unfold QgA at h;split at h
  .rename_i hn;split at h
   .rename_i e;exact Qhp hT e hn (QcK hT n h g)
   .cases h
  .cases h
theorem TCy.lf{k:List Kf}(h:TC P h0 N c env H (λx env H=>kqY X P h0 N k Q x env H st)):TCy X P h0 N c env H st (kqY X P h0 N k Q):=TCy.lift h
theorem WOy.y1{all:Array Oper}{o:Oper}{r:List Oper}{d:Nat}{x:T}{l:List T}{e:T->A}{y z:Operand}{a:Array TypeId}(hE:X.enc=λx=>[e x])(g:X.nx=nxL)(i:o.op=.call {callee:=.value y,args:= #[z],argTypes:=a})(j:opA env y=.fn (.yield X.l) [] [])(h:opA env z=e x)(f:Yc (e x)=true)
  (k:WOy X P h0 N all r (up env d (.bool true)) H (.on l) Q)(m:WOy X P h0 N all r (up env d (.bool false)) H (.off l) Q)(hg:Qt all o env true:=by exact rfl)(hd:o.dst=some d:=by exact rfl)(hNd:Nat.blt d N=true:=by exact rfl):WOy X P h0 N all (o::r) env H (.on (x::l)) Q:=by
 refine WOy.yield (by rw[g];rfl) hg hd hNd ?_ ?_
 .rw[hE];exact Qhl i j h f
 grind
theorem Qh9{all:Array Oper}{o:Oper}{r:List Oper}{d:Nat}{x:T}{l:List T}{e1 e2:T->A}{y h i:Operand}{j:Array TypeId}(hE:X.enc=λx=>[e1 x,e2 x])(k:X.nx=nxL)(m:o.op=.call {callee:=.value y,args:= #[h,i],argTypes:=j})(n:opA env y=.fn (.yield X.l) [] [])(e:opA env h=e1 x)(f:opA env i=e2 x)(a:Yc (e1 x)=true)(g:Yc (e2 x)=true)
  (p:WOy X P h0 N all r (up env d (.bool true)) H (.on l) Q)(q:WOy X P h0 N all r (up env d (.bool false)) H (.off l) Q)(hg:Qt all o env true:=by exact rfl)(hd:o.dst=some d:=by exact rfl)(hNd:Nat.blt d N=true:=by exact rfl):WOy X P h0 N all (o::r) env H (.on (x::l)) Q:=by
 refine WOy.yield (by rw[k];rfl) hg hd hNd ?_ ?_
 .rw[hE];exact Qgx m n e f a g
 grind
end
def yl{T R:Type}(x:T)(k:Option (List T×R)):Option (List T×R):=k.bind λp=>some (x::p.1,p.2)
def ap{T B R:Type}(a:Option (List T×B))(k:B->Option (List T×R)):Option (List T×R):=a.bind λp=>(k p.2).bind λq=>some (p.1++q.1,q.2)
theorem Qi8{T R:Type}{x:T}{k:Option (List T×R)}{a:List T}{v:R}(h:yl x k=some (a,v)):∃zs,k=some (zs,v)/\a=x::zs:=by
 obtain⟨⟨zs,e⟩,d,f⟩:=Q3 h
 grind
theorem Qjf{T B R:Type}{a:Option (List T×B)}{k:B->Option (List T×R)}{d:List T}{v:R}(h:ap a k=some (d,v)):∃y1 b y2,a=some (y1,b)/\k b=some (y2,v)/\d=y1++y2:=by
 obtain⟨⟨y1,b⟩,i,e⟩:=Q3 h;obtain⟨⟨y2,j⟩,g,f⟩:=Q3 e
 grind
section
variable {T:Type} {X:Ctx T} {P:Program} {h0 N:Nat} {c c':Code} {env:Env} {H:Qc} {st:YSt T} {Q:Yk T}
def Qiz{β:Type}(h0:Nat)(b:β)(E':β->Env)(H':β->Qc)(rem:List T)(Q:Yk T):Yk T
 |.normal,env,H,st=>Le h0 env H (E' b) (H' b)/\st=.on rem
 |.exit id,env,H,st=>Q (.exit id) env H st
 |.ret,env,H,st=>Q .ret env H st
theorem Qfh{β:Type}{E':β->Env}{H':β->Qc}(b:β)(rem:List T)(sel keep:List Nat)(nE:β->Env)(nH:β->List (Nat×Blk))(_:∀b,QfK sel keep (nE b) (nH b) env H=some (E' b,H' b))(h:TCy X P h0 N c env H st (Qiz h0 b E' H' rem Q))(k:∀env H,Le h0 env H (E' b) (H' b)->Q .normal env H (.on rem)):TCy X P h0 N c env H st Q:=
 h.mono λx env' H' st' q=>by
  cases x with
  |normal=>obtain⟨q1,rfl⟩:=q;grind
  |exit id=>exact q
  |ret=>exact q
theorem Qje{β:Type}{b:β}{E':β->Env}{H':β->Qc}{rem:List T}(h:Le h0 env H (E' b) (H' b)):Qiz h0 b E' H' rem Q .normal env H (.on rem):=⟨h,rfl⟩
theorem Qjd{β:Type}{b:β}{E':β->Env}{H':β->Qc}{rem:List T}(h:Q .ret env H st):Qiz h0 b E' H' rem Q .ret env H st:=h
theorem Qid{S B:Type}{step:S->Option (List T×Ctl S B)}{E':S->Env}{H':S->Qc}{m:Nat}{s0:S}{ys rem:List T}{b:B}(sel keep:List Nat)(nE:S->Env)(nH:S->List (Nat×Blk))(h:QdR step m s0=some (ys,b))(_:∀s,QfK sel keep (nE s) (nH s) env H=some (E' s,H' s))(hI:Le h0 env H (E' s0) (H' s0))
  (body:∀s zs d rest,step s=some (zs,d)->(∀b',d=.done b'->b'=b/\rest=rem)->TCy X P h0 N c (E' s) (H' s) (.on (zs++rest)) (Qdy h0 E' H' d rest Q)):TCy X P h0 N (.loop c) env H (.on (ys++rem)) Q:=QgV h hI body
theorem QhD{S B:Type}{E':S->Env}{H':S->Qc}{s:S}{d:Ctl S B}{zs rest:List T}(e:some ([],Ctl.cont s)=some (zs,d))(h:Le h0 env H (E' s) (H' s)):Qdy h0 E' H' d rest Q .normal env H (.on (zs++rest)):=by
 cases e;exact⟨s,rfl,h,rfl⟩
theorem QhB{S B:Type}{id:Nat}{E':S->Env}{H':S->Qc}{d:Ctl S B}{rest:List T}(h:Q (.exit id) env H st):Qdy h0 E' H' d rest Q (.exit id) env H st:=h
theorem QhC{S B:Type}{E':S->Env}{H':S->Qc}{d:Ctl S B}{rest:List T}(h:Q .ret env H st):Qdy h0 E' H' d rest Q .ret env H st:=h
theorem Oy{S B:Type}{d:Ctl S B}{x b:B}{zs rest rem:List T}(a:∀b',d=.done b'->b'=b/\rest=rem)(h:some ([],Ctl.done x)=some (zs,d)):zs=[]/\b=x/\rest=rem:=by
 grind
theorem QcB{f:FuncId}{fn:Func}{c:Code}{N:Nat}{caps:List A}{H:Qc}{enc:T->List A}{xs:List T}(e:P.funcs[f]?=some fn)(i:fn.body=some c)(d:fn.ntmps=N)(a:Nat.ble (caps.length+1) N=true)(g:fn.results= #[])
  (h:∀X,X.enc=enc->X.nx=nxL->TCy X P H.length N c (Qa4 0 (.fn (.yield X.l) [] []::caps)) H (.on (xs++[])) EndY):QgZ P f caps H enc nxL xs:=by
 grind[Qeu]
end
open Go.MapKept
section
variable {fr ro:Nat->Prop} {σ:Sig} {H:Qc} {w:World}
end
end Go.Sw
namespace Go.Sw
open Go.MapKept
def QdC{α β:Type}(ek:α->A)(ev:β->List A)(l:List (α×Option (List β))):List (A×Option (List (List A))):=l.map λp=>(ek p.1,p.2.map (List.map ev))
def Qgc{α β:Type}[DecidableEq α](l:List (α×Option (List β)))(x:α):List (α×Option (List β)):=l.map λp=>bif decide (p.1=x)then(p.1,none)else p
section
variable {P:Program} {kt:TypeId} {α β:Type} [DecidableEq α] {ek:α->A} {ev:β->List A} {ro:Nat->Prop} {w:World} {t k:Nat} (K:YX P kt ek)
include K
theorem Qgs{x:α}:∀{l:List (α×Option (List β))} {es:List MapEntry},MO ro w t k (QdC ek ev l) es->MO ro w t k (QdC ek ev (Qgc l x)) es
 |[],es,h=>h
 |p::l,es,h=>by
  obtain⟨e,l',rfl,h1,h2,h3⟩:=h;by_cases q:p.1=x
  .refine⟨e,l',rfl,by grind,λrows hr=>?_,Qgs h3⟩
   grind
  .refine⟨e,l',rfl,by grind,(by grind),Qgs h3⟩
omit K
theorem Qck{x:α}{c:Nat}:∀{l:List (α×Option (List β))} {es:List MapEntry},QeE (QdC ek ev (Qgc l x)) es c->QeE (QdC ek ev l) es c
 |[],es,h=>by cases es<;>exact h.elim
 |p::l,[],h=>h.elim
 |p::l,e::es,h=>by
  rcases h with⟨h1,h2⟩|h
  .by_cases q:p.1=x
   .grind
   .exact .inl ⟨by grind,h2⟩
  .exact .inr (Qck h)
theorem Qhg{x:α}:∀{l:List (α×Option (List β))} {es:List MapEntry},Qio (QdC ek ev l) es->Qio (QdC ek ev (Qgc l x)) es
 |[],es,h=>by cases es<;>trivial
 |p::l,[],h=>trivial
 |p::l,e::es,h=>by
  obtain⟨h1,h2⟩:=h;refine⟨λc q1 q2 q3=>?_,Qhg h2⟩;by_cases q:p.1=x
  .grind
  .exact h1 c (by grind) q2 (Qck q3)
include K
theorem MO.find:∀{l:List (α×Option (List β))} {es:List MapEntry},MO ro w t k (QdC ek ev l) es->∀(x:α),(es.map (·.key)).Nodup->
  ((∀e:MapEntry,e∈es->e.key≠QI (ek x))->Qca l x=none)/\
  (∀(j:Nat) (e:MapEntry),es[j]?=some e->e.key=QI (ek x)->∃q,Qca l x=some q/\(∀rows,q=some rows->SO ro w t k (rows.map ev) e.val)/\
   ∀c p n cap,q.isSome=true->e.val=.slice (some ⟨c,p,none⟩) n cap->QeE (QdC ek ev l) es c/\(Qio (QdC ek ev l) es->¬QeE (QdC ek ev (Qgc l x)) es c))
 |[],es,h,x,_=>by
  cases(show es=[]from h);exact⟨λ_=>rfl,(by simp)⟩
 |p::l,es,h,x,hn=>by
  obtain⟨e0,l',rfl,h1,h2,h3⟩:=h;have hk:=VR.val (K.scl _) h1;simp only[Vc,List.nodup_cons]at hn;obtain⟨a1,a2⟩:=MO.find (l:=l) h3 x hn.2;by_cases hp:p.1=x
  .subst hp;constructor
   .grind
   .intro j e he hx;cases j with
    |zero=>
     simp only[Xy,Option.some.injEq]at he;subst he;refine⟨p.2,by simp[Qca],(by grind),λc p' n cap hs hv=>⟨.inl (by grind),λhd hq=>?_⟩⟩;rcases hq with⟨q1,_⟩|hq
     .simp at q1
     .exact hd.1 c (by grind) ⟨p',n,cap,hv⟩ (Qck (l:=l) hq)
    |succ j=>
     grind
  .have e1:Qca (p::l) x=Qca l x:=by simp[Qca,hp]
   rw[e1];constructor
   .grind
   .intro j e he hx;cases j with
    |zero=>
     simp only[Xy,Option.some.injEq]at he;subst he;exact absurd (K.inj _ _ (hk.symm.trans hx)) hp
    |succ j=>
     obtain⟨q,f,i,d⟩:=a2 j e (by grind) hx;refine⟨q,f,i,λc p' n cap hs hv=>?_⟩;obtain⟨a,g⟩:=d c p' n cap hs hv;refine⟨.inr a,λhd hq=>?_⟩;rcases hq with⟨q1,m⟩|hq
     .exact hd.1 c (by grind) m a
     .exact g hd.2 hq
end
section
variable {P:Program} {o:Oper} {env:Env} {H:Qc}
variable {T kt et:Nat} {α β:Type} [DecidableEq α] {ek:α->A} {ev:β->List A} {x y:Operand} {i t k:Nat} {l:List (α×Option (List β))} {key:α} {rows:List β}
end
end Go.Sw
namespace Go.Sw
open Go.MapKept
theorem MO.append{ro:Nat->Prop}{w:World}{t k:Nat}:∀{l m:List (A×Option (List (List A)))} {es fs:List MapEntry},MO ro w t k l es->MO ro w t k m fs->MO ro w t k (l++m) (es++fs)
 |[],m,es,fs,h,q=>by cases(show es=[]from h);exact q
 |p::l,m,es,fs,h,q=>by
  obtain⟨e,l',rfl,h1,h2,h3⟩:=h;exact⟨e,l'++fs,rfl,h1,h2,MO.append h3 q⟩
theorem MO.length{ro:Nat->Prop}{w:World}{t k:Nat}:∀{l:List (A×Option (List (List A)))} {es:List MapEntry},MO ro w t k l es->es.length=l.length
 |[],es,h=>by cases(show es=[]from h);rfl
 |p::l,es,h=>by
  obtain⟨e,l',rfl,h1,h2,h3⟩:=h;simp[MO.length h3]
section
variable {P:Program} {kt:TypeId} {α β:Type} [DecidableEq α] {ek:α->A} {ev:β->List A} {ro:Nat->Prop} {w:World} {t k:Nat} (K:YX P kt ek)
end
section
variable {P:Program} {o:Oper} {env:Env} {H:Qc}
variable {T kt et:Nat} {α β:Type} [DecidableEq α] {ek:α->A} {ev:β->List A} {x y zz:Operand} {i j t k n:Nat} {l m:List (α×Option (List β))} {key:α} {rows:List β}
end
end Go.Sw
namespace Go.Sw
open Go.MapKept
section
variable {fr ro:Nat->Prop} {σ:Sig} {H:Qc} {w:World}
end
section
variable {P:Program} {o:Oper} {env:Env} {H:Qc} {T kt et i t k:Nat} {x:Operand} {es:List (A×Option (List (List A)))}
end
section
variable {P:Program} {o:Oper} {env:Env} {H:Qc}
variable {T kt et:Nat} {α β:Type} [DecidableEq α] {ek:α->A} {ev:β->List A} {x y zz:Operand} {i j t k n:Nat} {l m:List (α×Option (List β))} {key:α} {rows:List β}
end
end Go.Sw
namespace Go.Sw
open Go.MapKept
section
variable {P:Program} {o:Oper} {env:Env} {H:Qc}
variable {T kt et:Nat} {α β:Type} [DecidableEq α] {ek:α->A} {ev:β->List A} {x y zz:Operand} {i j t k n:Nat} {l m:List (α×Option (List β))} {key:α} {rows:List β}
end
end Go.Sw
namespace Go.Sw
theorem QbM{h0 d:Nat}{x y:A}{e:Env}{H:Qc}:Le h0 ((d,x)::(d,y)::e) H ((d,x)::e) H:=Le.env λs=>.inr (by
 simp[lk]
 grind)
abbrev Kat:=List (Nat×Nat×Nat)
def Qhn:Nat->Nat->List (Nat×Nat)
 |lo,0=>[(lo,lo)]
 |lo,n+1=>(lo,lo)::Qhn (lo+1) n
def rgK(p:Nat×Nat×Nat):List (Nat×Nat):=bif Nat.beq p.1 1 then[(p.2.1,p.2.1+1)]else Qhn p.2.1 (p.2.2-p.2.1)
def plK(cat:Kat):List (List (Nat×Nat)):=cat.map rgK
def rqK(bs:List Nat)(cat:Kat):List (List Nat):=cat.map λp=>bs.take p.2.1
def hsK(cat:Kat):List Bool:=cat.map λp=>Nat.beq p.1 1
def msK(bs:List Nat):List (List Nat):=(List.range (bs.length+1)).map bs.take
theorem Qd9:∀(n lo:Nat),∀p∈Qhn lo n,p.1=p.2
 |0,lo,p,h=>by cases h with|head=>rfl|tail _ h=>cases h
 |n+1,lo,p,h=>by
  rcases XY.1 h with rfl|h
  .rfl
  .exact Qd9 n _ p h
section
variable {P:Program} {T:TyX} {h0 N m:Nat} {bs:List Nat} {cat:Kat} {l:List Oper} {ds:List Nat} {env:Env} {H:Qc} {Hs:List Qc} {Q:Qx} {K:List Oper->Env->Qc->Prop}
def DobK(P:Program)(N:Nat)(cat:Kat)(l:List Oper)(ds:List Nat)(env:Env)(n:Nat)(Hs:List Qc)(zs:List A)(j:Nat):Prop:=
 ∀p∈(plK cat).getD j [],YQ P N l ds zs env n n j (Hs.getD p.1 []) (Hs.getD p.2 [])
def DK(P:Program)(N m:Nat)(bs:List Nat)(cat:Kat)(l:List Oper)(ds:List Nat)(env:Env)(n:Nat)(K:List Oper->Env->Qc->Prop)(Hs:List Qc)(X:Qc)(r:List Oper)(xs:List A):Prop:=
 r=l.drop xs.length->∃ys Zs Y,xs.length+ys.length=m/\Hs.length+Zs.length=bs.length/\((∀Z∈Zs,n<=Z.length)/\(Hs.reverse++X::Zs).getD bs.length []=Y)/\(∀j,xs.length<=j->j<m->DobK P N cat l ds env n (Hs.reverse++X::Zs) (xs++ys) j)/\K (l.drop m) (Qam ds (xs++ys) env) Y
theorem QjM{d:List A}{n:Nat}{Zs:List Qc}(f:cat.length=m)(k:∀j,0<=j->j<m->DobK P N cat l ds env n Zs d j):QeD P N l ds d env n (n+0) 0 ((plK cat).map λq=>q.map λp=>(Zs.getD p.1 [],Zs.getD p.2 [])):=by
 refine QeC _ 0 λi s a p t=>?_;rw[Xl]at a;cases e:(plK cat)[i]? with
 |none=>grind
 |some q=>
  rw[e]at a;cases a;obtain⟨h,g,rfl⟩:=Xe.1 t;have r:i<m:=by
   grind[plK]
  have:=k i (XN _) r h (by grind)
  grind
theorem Qix{id:Nat}(m:Nat)(d:List Nat)(cat:Kat)(p:P.follows .mixedOrders=true)(q:Qcy l m N (QaI m 0 l) (hsK cat) (rqK d cat) (msK d) (plK cat)=true)(g:Nat.beq cat.length m=true)(f:Nat.ble h0 H.length=true)
  (h:DK P N m d cat l (QaI m 0 l) env H.length (λr e H=>WO P h0 N l.toArray r e H Q) [] H l []):TC P h0 N (.region id l.toArray true) env H Q:=by
 obtain⟨n,Zs,Y,t,u,s,j,k⟩:=h rfl;have a:=XK g;have i:(msK d).length=d.length+1:=by simp[msK]
 refine QF m 0 _ _ _ _ _ n (H::Zs) Y p q (by grind) (by simp_all) f ?_ (by simp) (by grind) (QjM a j) (by simp[plK,a]) k
 simp_all
variable {n:Nat} {X X1:Qc} {xs:List A} {o:Oper} {r:List Oper} {x:A} {d:Nat}
theorem DK.done(a:Nat.beq xs.length m=true)(d:Nat.beq Hs.length bs.length=true)(h:K r (Qam ds xs env) X):DK P N m bs cat l ds env n K Hs X r xs:=by
 intro f;have e:=XK a;have g:=XK d;refine⟨[],[],X,by simpa using e,by omega,⟨(λZ hZ=>by cases hZ),?_⟩,λj i k=>by omega,?_⟩
 .grind
 grind
theorem DK.add(s:∀ys Zs,l[xs.length]?=some o->DobK P N cat l ds env n (Hs.reverse++X::Zs) (xs++x::ys) xs.length)(k:DK P N m bs cat l ds env n K Hs X r (xs++[x])):DK P N m bs cat l ds env n K Hs X (o::r) xs:=by
 intro h;obtain⟨q,e⟩:=QaJ h;obtain⟨ys,Zs,Y,g,i,f,d,a⟩:=k (by grind);simp[Vb,Va]at g d a;refine⟨x::ys,Zs,Y,by grind,i,f,λj p t=>?_,a⟩
 grind
theorem QcV{Zs:List Qc}{zs:List A}{j:Nat}{c:Nat×Nat×Nat}(d:Yu cat j=some c)(h:∀p∈rgK c,YQ P N l ds zs env n n j (Zs.getD p.1 []) (Zs.getD p.2 [])):DobK P N cat l ds env n Zs zs j:=by
 intro p a
 grind[Qat,plK]
theorem QiN{Zs:List Qc}{c:Nat}(a:Nat.beq c Hs.length=true):(Hs.reverse++X::Zs).getD c []=X:=by
 simp_all
theorem DK.wo{c:Nat}(h:WO P X.length N l.toArray [o] (QV (Qk o) 0 ds xs env) X (YB (up (QV (Qk o) 0 ds xs env) d x) X))(k:DK P N m bs cat l ds env n K Hs X r (xs++[x]))
  (e:Yu cat xs.length=some (0,c,c):=by exact rfl)(hd:o.dst=some d:=by exact rfl)(hcH:Nat.beq c Hs.length=true:=by exact rfl):DK P N m bs cat l ds env n K Hs X (o::r) xs:=
 .add (λys Zs ho=>QcV e λp a=>by
  have:=by
   change p∈Qhn c (c-c)at a;rw[Nat.sub_self]at a;exact Vm.1 a
  grind[QiN,Qas,YG]) k
theorem DK.wa{lo hi:Nat}(h:∀X,WO P X.length N l.toArray [o] (QV (Qk o) 0 ds xs env) X (YB (up (QV (Qk o) 0 ds xs env) d x) X))(k:DK P N m bs cat l ds env n K Hs X r (xs++[x]))
  (f:Yu cat xs.length=some (0,lo,hi):=by exact rfl)(hd:o.dst=some d:=by exact rfl):DK P N m bs cat l ds env n K Hs X (o::r) xs:=
 .add (λys Zs ho=>QcV f λp a=>by
  have e:=Qd9 _ _ p a
  grind[Qas,YG]) k
theorem DK.op{c u:Nat}(h:WO P X.length N l.toArray [o] (QV (Qk o) 0 ds xs env) X (YB (up (QV (Qk o) 0 ds xs env) d x) X1))(k:DK P N m bs cat l ds env n K (X::Hs) X1 r (xs++[x]))(B:Nat.ble n X1.length=true:=by exact rfl)
  (hc:Yu cat xs.length=some (1,c,u):=by exact rfl)(hd:o.dst=some d:=by exact rfl)(hcH:Nat.beq c Hs.length=true:=by exact rfl):DK P N m bs cat l ds env n K Hs X (o::r) xs:=by
 intro w;obtain⟨F,i⟩:=QaJ w;obtain⟨s,Zs,Y,t,y,f,g,e⟩:=k (by grind);simp only[XV,XT,List.length_nil,Vb,Vv,Va,List.reverse_cons]at t y f g e;refine⟨x::s,X1::Zs,Y,by grind,by grind,⟨λZ a=>?_,f.2⟩,λj E G=>?_,e⟩
 .rcases XY.1 a with rfl|a
  .simp_all
  grind
 .rcases Vn xs.length j with q|q
  .grind
  .obtain rfl:j=xs.length:=by omega
   refine QcV hc λp z=>?_;have:p=(c,c+1):=Vm.1 z
   grind[Nat.eq_of_beq_eq_true,Qas,YG]
def Qc4(T:TyX)(N m:Nat)(cat:Kat)(l:List Oper)(ds:List Nat)(env:Env)(n:Nat):Nat->Nat->Nat->List Qc->Qc->List Oper->List A->Option (List Qc×List Oper×List A)
 |0,_,_,Hs,X,r,xs=>some (Hs,r,xs)
 |_+1,_,_,_,_,[],_=>none
 |k+1,i,j,Hs,X,o::r,xs=>match o.dst with
  |none=>none
  |some d=>match Nat.blt d N with
   |false=>none
   |true=>match Yv ⟨l⟩ o (QV (Qk o) 0 ds xs env)with
    |none=>none
    |some false=>(match QbX xs (.tup [])with
      |.mk xs'=>match Yu cat i with
       |some (0,_,_)=>Qc4 T N m cat l ds env n k (i+1) j Hs X r xs'
       |some (1,c,_)=>(match Nat.beq c j,Nat.ble n X.length with
        |true,true=>Qc4 T N m cat l ds env n k (i+1) (j+1) (X::Hs) X r xs'
        |_,_=>none)
       |_=>none)
    |some true=>match Yu cat i with
     |some (0,lo,hi)=>(match Qb5 T o (QV (Qk o) 0 ds xs env) []with
      |some x=>(match QbX xs x with
       |.mk xs'=>Qc4 T N m cat l ds env n k (i+1) j Hs X r xs')
      |none=>match Nat.beq lo hi,Nat.beq lo j with
       |true,true=>(match Qb5 T o (QV (Qk o) 0 ds xs env) X with
        |none=>none
        |some x=>match QbX xs x with
         |.mk xs'=>Qc4 T N m cat l ds env n k (i+1) j Hs X r xs')
       |_,_=>none)
     |_=>none
theorem Qbc(hT:QaM P T):∀(k i j:Nat) {Hs Hs':List Qc} {r r':List Oper} {xs xs':List A},i=xs.length->j=Hs.length->Qc4 T N m cat l ds env n k i j Hs X r xs=some (Hs',r',xs')->DK P N m bs cat l ds env n K Hs' X r' xs'->DK P N m bs cat l ds env n K Hs X r xs
 |0,i,j,Hs,Hs',r,r',xs,xs',_,_,h,k=>by cases h;exact k
 |k0+1,i,j,Hs,Hs',[],r',xs,xs',_,_,h,k=>by cases h
 |k0+1,i,j,Hs,Hs',o::r,r',xs,xs',hi,hj,h,k=>by
  subst hi hj;unfold Qc4 at h;split at h
  .cases h
  .rename_i d hd;split at h
   .cases h
   .rename_i q2;split at h
    .cases h
    .rename_i hw;simp[YJ]at h;split at h
     .rename_i lo hi' q0;exact .wa (λX=>WO.skip (QE hw) hd q2 (WO.nil YB.mk)) (Qbc hT k0 _ _ (by simp) rfl h k) q0 hd
     .rename_i c c' q0;split at h
      .rename_i q1 q3;exact .op (WO.skip (QE hw) hd q2 (WO.nil YB.mk)) (Qbc hT k0 _ _ (by simp) (by simp) h k) q3 q0 hd q1
      .cases h
     .cases h
    .rename_i hw;split at h
     .rename_i lo hi' q0;split at h
      .rename_i x hv;simp[YJ]at h;exact .wa (λX=>Yq (QE hw) hd q2 (Qao hT (QcW hv)) (WO.nil YB.mk)) (Qbc hT k0 _ _ (by simp) rfl h k) q0 hd
      .split at h
       .rename_i q1 q3;split at h
        .cases h
        .rename_i x hv;simp[YJ]at h;obtain rfl:=XK q1;exact .wo (Yq (QE hw) hd q2 (Qao hT hv) (WO.nil YB.mk)) (Qbc hT k0 _ _ (by simp) rfl h k) q0 hd q3
       .cases h
     .cases h
theorem Qb4{α:Type}{b:Bool}{p q:Option α}{v:α}{d a:List A}(j:Nat)(h:(bif b then p else q)=some v)(g:Yu xs j=some (.bool b))(f:Qfy xs j (.bool true)=.mk d)(i:Qfy xs j (.bool false)=.mk a)
  (t:b=true->p=some v->DK P N m bs cat l ds env n K Hs X r d)(e:b=false->q=some v->DK P N m bs cat l ds env n K Hs X r a):DK P N m bs cat l ds env n K Hs X r xs:=by
 cases b with
 |true=>simp_all[QaG]
 |false=>simp_all[QaG]
theorem DK.v(h:OpV P o (QV (Qk o) 0 ds xs env) X x)(k:DK P N m bs cat l ds env n K Hs X r (xs++[x])){c:Nat}(hg:Yv ⟨l⟩ o (QV (Qk o) 0 ds xs env)=some true:=by exact rfl)
  (hd:o.dst=some d:=by exact rfl)(hN:Nat.blt d N=true:=by exact rfl)(hc:Yu cat xs.length=some (0,c,c):=by exact rfl)(hcH:Nat.beq c Hs.length=true:=by exact rfl):DK P N m bs cat l ds env n K Hs X (o::r) xs:=
 .wo (Yq (QE hg) hd hN h (WO.nil YB.mk)) k hc hd hcH
def allV(T:TyX)(o:Oper)(e:Env)(x:A):Nat->List Qc->Prop
 |0,_=>True
 |k+1,Y::r=>Qb5 T o e Y=some x/\allV T o e x k r
 |_+1,[]=>False
theorem Qf4:∀(n lo:Nat),∀p∈Qhn lo n,lo<=p.1/\p.1<=lo+n
 |0,lo,p,h=>by cases h with|head=>omega|tail _ h=>cases h
 |n+1,lo,p,h=>by
  rcases XY.1 h with rfl|h
  .omega
  .have:=Qf4 n _ p h;omega
def allW(P:Program)(N:Nat)(l:List Oper)(o:Oper)(e:Env)(d:Nat)(x:A):Nat->List Qc->Prop
 |0,_=>True
 |k+1,Y::r=>WO P Y.length N l.toArray [o] e Y (YB (up e d x) Y)/\allW P N l o e d x k r
 |_+1,[]=>False
theorem Qgn{e:Env}:∀{k:Nat} {r:List Qc},allW P N l o e d x k r->∀j,j<k->WO P (r.getD j []).length N l.toArray [o] e (r.getD j []) (YB (up e d x) (r.getD j []))
 |0,_,_,j,hj=>(by omega)
 |k+1,[],h,_,_=>h.elim
 |k+1,Y::r,h,0,_=>h.1
 |k+1,Y::r,h,j+1,hj=>by
  have:=Qgn h.2 j (by omega)
  grind
theorem QdA{lo hi:Nat}(h:allW P N l o (QV (Qk o) 0 ds xs env) d x (hi+1-lo) (X::Hs))(k:DK P N m bs cat l ds env n K Hs X r (xs++[x]))
  (j:Yu cat xs.length=some (0,lo,hi):=by exact rfl)(hd:o.dst=some d:=by exact rfl)(hcH:Nat.beq hi Hs.length=true:=by exact rfl)(hle:Nat.ble lo hi=true:=by exact rfl):DK P N m bs cat l ds env n K Hs X (o::r) xs:=
 .add (λys Zs ho=>QcV j λp f=>by
  have e:=Qd9 _ _ p f;have a:=XL hle;have hb:=Qf4 (hi-lo) lo p f;have i:=XK hcH;rw[<- e];have g:=Qgn h (Hs.length-p.1) (by omega);have q:(Hs.reverse++X::Zs).getD p.1 []=(X::Hs).getD (Hs.length-p.1) []:=by
   grind
  rw[q];exact Qas ho YG g hd) k
theorem DK.vs(g:QaM P T){lo hi:Nat}(h:allV T o (QV (Qk o) 0 ds xs env) x (hi+1-lo) (X::Hs))(k:DK P N m bs cat l ds env n K Hs X r (xs++[x]))
  (p:Yu cat xs.length=some (0,lo,hi))(f:o.dst=some d)(a:Nat.beq hi Hs.length=true)(hg:Yv ⟨l⟩ o (QV (Qk o) 0 ds xs env)=some true)(j:Nat.blt d N=true)(e:Nat.ble lo hi=true):DK P N m bs cat l ds env n K Hs X (o::r) xs:=by
 refine QdA ?_ k p f a e;generalize hi+1-lo=c at h;generalize X::Hs=L at h
 induction c generalizing L with
 |zero=>trivial
 |succ c i=>
  cases L with
  |nil=>exact h.elim
  |cons Y L=>exact⟨Yq (QE hg) f j (Qao g h.1) (WO.nil YB.mk),i L h.2⟩
end
def room(n:Int):Option Nat:=bif decide (0<n)&&decide (n<=4294967296)then some n.toNat else none
section
variable {P:Program} {o:Oper} {env:Env} {H:Qc}
theorem Qcj{a i:Nat}{x x':Blk}(d:H[i]?=some x)(e:x=x'):Le a env H env (H.set i x'):=by
 grind[List.set_getElem_self,Le.refl]
theorem RL.put{ro:Nat->Prop}{σ:Sig}{w:World}{k:Nat}:∀{a:Nat} {es fs:List (List A)} {l m:List Value},RL ro σ w k es l->a+fs.length<=es.length->Sw.allK k fs->LR ro σ w fs.flatten m->(∀v∈m,Qv v)->
  RL ro σ w k (es.take a++fs++es.drop (a+fs.length)) (Sw.splice l (a*k) m)
 |0,es,[],l,m,h,hn,hk,hm,hp=>by
  obtain rfl:m=[]:=hm;simpa[Sw.splice]using h
 |0,[],f::fs,l,m,h,hn,hk,hm,hp=>by simp at hn
 |0,c::es,f::fs,l,m,⟨l1,l2,h1,h2,h3,h4⟩,hn,hk,hm,hp=>by
  subst h1;have hl1:=h3.1.length;have hml:=hm.length;rw[Ve,XV]at hml;have e1:m.take k++m.drop k=m:=Xu _ _;have q1:LR ro σ w f (m.take k):=by have:=hm.take k;rwa [Ve,XZ (by rw[hk.1];omega),Vt (by rw[hk.1];omega)]at this
  have q2:=by have:=hm.drop k;rwa [Ve,X0 (by rw[hk.1];omega),List.drop_of_length_le (by rw[hk.1];omega),Va]at this
  have e:=RL.put (a:=0) h4 (by grind) hk.2 q2 (λv d=>hp v (List.mem_of_mem_drop d));simp only[List.take_zero,Va,Xr,Nat.zero_mul,Sw.splice]at e⊢;refine⟨m.take k,m.drop k++l2.drop (m.drop k).length,?_,hk.1,⟨q1,λv d=>hp v (List.mem_of_mem_take d)⟩,by simp_all⟩;have g:k<=m.length:=by rw[hml,hk.1];omega
  rw[<- Vb,e1];congr 1
  grind[List.drop_length_add_append]
 |a+1,[],fs,l,m,h,hn,hk,hm,hp=>by simp at hn
 |a+1,c::es,fs,l,m,⟨l1,l2,h1,h2,h3,h4⟩,hn,hk,hm,hp=>by
  subst h1;have hl1:=h3.1.length;have e:=RL.put (a:=a) h4 (by simp at hn;omega) hk hm hp;refine⟨l1,Sw.splice l2 (a*k) m,?_,h2,h3,?_⟩
  .have e1:(a+1)*k=l1.length+a*k:=by rw[Xj];omega
   unfold Sw.splice;rw[e1,X4,show l1.length+a*k+m.length=l1.length+(a*k+m.length)from by omega,X3];simp
  .have i:a+1+fs.length=(a+fs.length)+1:=by omega
   simpa[i]using e
def QgY(P:Program)(H:Qc)(x:A)(k:Nat)(es:List (List A)):Prop:=
 ∀fr ro σ w v,Sim fr ro σ H w->VR ro σ w x v->(∃a c,v=.slice a es.length c)/\
  ∀j,j<=es.length->allK k (es.take j)/\ ∃l,(Builtin.firstCells k j v).run P w=.ok l.toArray w/\LR ro [] w (es.take j).flatten l/\ ∀v∈l,Qv v
theorem Qc2{fr ro:Nat->Prop}{σ:Sig}{w:World}{k j b a n c:Nat}{es:List (List A)}(h:RR ro [] w b k es a)(i:j<=es.length):
  allK k (es.take j)/\ ∃l,(Builtin.firstCells k j (.slice (some ⟨b,a,none⟩) n c)).run P w=.ok l.toArray w/\LR ro [] w (es.take j).flatten l/\ ∀v∈l,Qv v:=by
 obtain⟨f,m,d⟩:=(h.take j).flat;rw[Xt,Xw i]at d;obtain⟨l,e,g⟩:=Qb6 (c:=c) f d;exact⟨m,l,(e w rfl),g⟩
theorem QbD{k n c:Nat}{a:Option Addr}{w:World}:(Builtin.firstCells k 0 (.slice a n c)).run P w=.ok #[] w:=by
 cases a<;>simp[go_sem]
theorem Qi3{α:Type}{e:α->List A}{k:Nat}{l:List α}:QgY P H (.rsl k (l.map e)) k (l.map e):=by
 intro fr m σ w v s ⟨a,c,h1,h2,d⟩;subst h1;refine⟨⟨a,c,rfl⟩,λj h=>?_⟩;rcases d with d|⟨b,g,rfl,i,f⟩
 .obtain rfl:j=0:=by grind
  exact⟨trivial,[],QbD,rfl,by simp⟩
 .exact Qc2 (fr:=fr) (σ:=σ) f h
theorem QgY.osl{i s n k t:Nat}{es a:List (List A)}(r:H[i]?=some (.row t k es))(he:(es.drop s).take n=a)(L:s+n<=es.length):QgY P H (.osl i s n k) k a:=by
 intro fr N σ w v sm h;have u:a.length=n:=by grind
 rcases h with⟨rfl,rfl⟩|⟨b,p,d,M,m,q,rfl,x,⟨J,g⟩,F,G⟩
 .have e:a=[]:=(by grind);subst e;refine⟨⟨none,0,rfl⟩,λj z=>?_⟩;obtain rfl:j=0:=by omega
  exact⟨trivial,[],QbD,rfl,by simp⟩
 .rw[u];refine⟨⟨_,d,rfl⟩,λj z=>?_⟩;obtain⟨l,y,E⟩:=sm.blk i _ _ q r;have f:=((YA (pre:=[]) (by simpa using y) E).drop s).take n;rw[he]at f;by_cases B:0<d
  .obtain rfl:=x B;simpa using Qc2 (fr:=fr) (σ:=σ) f (by omega)
  .obtain rfl:j=0:=by omega
   exact⟨trivial,[],QbD,rfl,by simp⟩
theorem Qi4{α:Type}{e:α->List A}{b t k:Nat}{l r:List α}{a c:Int}(h:slc l a c=some r)(f:H[b]?=some (.row t k (l.map e)):=by exact rfl):QgY P H (.osl b (0+a.toNat) (c.toNat-a.toNat) k) k (r.map e):=by
 obtain⟨j,i,g,d⟩:=QcZ h;refine QgY.osl f ?_ (by grind);rw[<- d, <- List.map_drop, <- List.map_take,Xr,List.drop_take]
def cpy{α:Type}(l:List α)(a c:Int)(m:List α):Option (List α):=some (l.take a.toNat++m.take (c.toNat-a.toNat)++l.drop (a.toNat+min m.length (c.toNat-a.toNat)))
theorem QcR{α:Type}{l r l' m:List α}{a c:Int}(h:slc l a c=some r)(d:cpy l a c m=some l'):l.length=l'.length:=by
 obtain⟨f,e,g,_⟩:=QcZ h;rw[<- XS d]
 grind
theorem Qdj{α:Type}{l l' m:List α}(a:cpy l 0 l.length m=some l'):l.length=l'.length:=by
 rw[<- XS a]
 grind
theorem Qd7{α:Type}{e:α->List A}{c:Call}{T T' et k b a n t:Nat}{x y:Operand}{ya:A}{l m l':List α}(ab:a+n<=l.length)(ae:l.take a++m.take n++l.drop (a+min m.length n)=l')(hT:∀w,(underlying T).run P w=.ok (.slice et) w)(B:∀w,(sizeOf et).run P w=.ok k w)(X:QgY P H ya k (m.map e))
  (ho:o.op=.call c)(hc:c={callee:=.builtin .copy,args:= #[x,y],argTypes:= #[T,T']})(hx:opA env x=.osl b a n k)(hH:H[b]?=some (.row t k (l.map e)))(W:opA env y=ya):
  OpH P o env H (.int .i64 (min m.length n:Nat)) (H.set b (.row t k (l'.map e))):=by
 intro L G σ N ac w r;have s:=Ql r x;rw[hx]at s;have h2:=Ql r y;rw[W]at h2;obtain⟨⟨ay,cy,Q⟩,q2⟩:=X L G σ w _ r.sim h2;rw[XU]at Q q2;obtain⟨q3,E,J,Y,q6⟩:=q2 (min m.length n) (Nat.min_le_left _ _);have i:((m.map e).take (min m.length n)).length=min m.length n:=by simp
 have V:l'.map e=(l.map e).take a++(m.map e).take (min m.length n)++(l.map e).drop (a+((m.map e).take (min m.length n)).length):=by
  grind[List.map_take,List.map_drop]
 have d:(Builtin.copy_ #[T,T'] o.type #[ac.eval x,ac.eval y]).run P w=.ok (.int .i64 (min m.length n:Nat)) w->min m.length n=0->
   ∃v w' ro' τ,(execOp ac.eval o).run P w=.ok (.value v) w'/\VR ro' (σ++τ) w' (.int .i64 (min m.length n:Nat)) v/\Sim L ro' (σ++τ) (H.set b (.row t k (l'.map e))) w'/\Qj L G w ro' w':=by
  intro g hz;have X:H.set b (.row t k (l'.map e))=H:=by
   have:l'.map e=l.map e:=by simp_all
   grind[List.set_getElem_self]
  refine⟨_,w,G,[],?_,rfl,by simpa[X]using r.sim,Qj.refl _ _ _⟩;subst hc;generalize ac.eval=ρ at*
  simp_all[execOp,resolve,invoke,builtin]
 have z:∀j:Nat,goInt j=.int .i64 j:=λ_=>rfl;rcases s with⟨F,s⟩|⟨bb,p,af,t',mm,s,h3,h4,⟨h5,aa⟩,h6,h7⟩
 .refine d ?_ (by omega);rw[Q]at J⊢;rw[s];have:Nat.min m.length 0=min m.length n:=by rw[F]
  simp only[Builtin.copy_,XA,Xy,Xz,Vf,hT,B,Result.andThen,Builtin.lenOf,Vg,this,J,z]
 .have f:∀R:Result Unit,(storeCells ⟨bb,p,none⟩ E).run P w=R->(Builtin.copy_ #[T,T'] o.type #[ac.eval x,ac.eval y]).run P w=R.andThen λ_ w=>.ok (.int .i64 (min m.length n:Nat)) w:=by
   intro R hR;rw[Q]at J⊢;rw[h3];have:Nat.min m.length n=min m.length n:=rfl;simp only[Builtin.copy_,XA,Xy,Xz,Vf,hT,B,Result.andThen,Builtin.lenOf,Vg,this,J,z,hR]
  by_cases F:min m.length n=0
  .have q:E=[]:=by
    have:=Y.length;rw[F]at this;exact Vu.1 (by simpa using this)
   refine d ?_ F;have:=f (.ok () w) (by rw[q];rfl);rw[this];rfl
  .obtain rfl:=h4 (by omega);obtain⟨l0,g1,g2⟩:=r.sim.blk b _ _ s hH;have M:=g2.length;have q:=Y.length;rw[YD q3,i]at q;have ad:a*k+(min m.length n)*k<=l0.length:=by
    rw[<- Xv];refine XO (Xx k ?_) M;rw[XU];omega
   have u:=Q9 (P:=P) (vs:=E) (a*k) 0 g1 (by omega) q6;rw[Xs]at u;have g:=f _ u;have h:=r.sim.set (x':=.row t k (l'.map e)) (obj:=.cells (splice l0 (a*k) E).toArray t (0,0)) s hH rfl
    (λy W=>Qab g1 (Q6 (by omega)) y W)
    (λex O=>⟨_,O,by
     rw[V];exact(RL.put g2 (by rw[i,XU];omega) q3 Y q6).mono ex.nil⟩)
   refine⟨_,_,G,[],?_,rfl,by simpa using h.1,h.2⟩;subst hc;generalize ac.eval=ρ at*;simp only[execOp,ho,resolve,Vf,Vg,Result.andThen,invoke,builtin,XC,Vc,Vd,g]
theorem Qha{α:Type}{e:α->List A}{c:Call}{T T' et k b t:Nat}{x y:Operand}{d:A}{l m l':List α}(h:cpy l 0 l.length m=some l')(f:∀w,(underlying T).run P w=.ok (.slice et) w)(a:∀w,(sizeOf et).run P w=.ok k w)(g:QgY P H d k (m.map e))
  (i:o.op=.call c:=by exact rfl)(hc:c={callee:=.builtin .copy,args:= #[x,y],argTypes:= #[T,T']}:=by exact rfl)(hx:opA env x=.osl b 0 l.length k:=by exact rfl)(hH:H[b]?=some (.row t k (l.map e)):=by exact rfl)(hy:opA env y=d:=by exact rfl):
  OpH P o env H (.int .i64 (min m.length l.length:Nat)) (H.set b (.row t k (l'.map e))):=by
 refine Qd7 (by omega) ?_ f a g i hc hx hH hy;rw[<- XS h];rfl
theorem Qhb{α:Type}{e:α->List A}{c:Call}{T T' et k b t:Nat}{x y:Operand}{d:A}{l n m l':List α}{i j:Int}(hi:slc l i j=some n)(h:cpy l i j m=some l')(f:∀w,(underlying T).run P w=.ok (.slice et) w)(a:∀w,(sizeOf et).run P w=.ok k w)(g:QgY P H d k (m.map e))
  (p:o.op=.call c:=by exact rfl)(hc:c={callee:=.builtin .copy,args:= #[x,y],argTypes:= #[T,T']}:=by exact rfl)(hx:opA env x=.osl b (0+i.toNat) (j.toNat-i.toNat) k:=by exact rfl)(hH:H[b]?=some (.row t k (l.map e)):=by exact rfl)(hy:opA env y=d:=by exact rfl):
  OpH P o env H (.int .i64 (min m.length (j.toNat-i.toNat):Nat)) (H.set b (.row t k (l'.map e))):=by
 obtain⟨s,u,r,q⟩:=QcZ hi;refine Qd7 (by omega) (XS h) f a g p hc ?_ hH hy
 grind
end
open Go.MapKept
section
variable {fr ro ro':Nat->Prop} {σ:Sig} {H:Qc} {w:World}
end
theorem Ojr{S B:Type}{d D:Ctl S B}{x:B}(hb:∀b,d=.done b->D=.done b)(h:some (Ctl.done x)=some d):D=.done x:=hb x (Oi h).symm
end Go.Sw
namespace Go.Sw
section
variable {P:Program} {o:Oper} {env:Env} {H:Qc} {α:Type} {e:α->List A}
end
open Go.MapKept
section
variable {P:Program} {o:Oper} {env:Env} {H:Qc}
variable {T kt et:Nat} {α β:Type} [DecidableEq α] {ek:α->A} {ev:β->A} {x y:Operand} {i:Nat} {l:List (α×β)} {k:α} {z0:β} {z:Value}
end
section
variable {fr ro:Nat->Prop} {σ:Sig} {H:Qc} {w:World}
end
end Go.Sw
namespace Go.Sw
structure Fil (α β:Type) where
 number:Int
 r0:List α
 r1:List α
 r2:List α
 reports:List β
 appeal:Bool
 deriving DecidableEq
structure FK (α β:Type) where
 T:Nat
 tF:Nat
 kF:Nat
 tR:Nat
 kR:Nat
 eF:α->List A
 eR:β->List A
section
variable {α β:Type} (K:FK α β)
def Qjz(b:Nat)(x:Fil α β):List A:=[.int .i64 x.number,.osl (b+1) 0 x.r0.length K.kF,.osl (b+2) 0 x.r1.length K.kF,.osl (b+3) 0 x.r2.length K.kF,.osl (b+4) 0 x.reports.length K.kR,.bool x.appeal]
def Qgg(b:Nat)(x:Fil α β):List Blk:=[.cells K.T (Qjz K b x),.row K.tF K.kF (x.r0.map K.eF),.row K.tF K.kF (x.r1.map K.eF),.row K.tF K.kF (x.r2.map K.eF),.row K.tR K.kR (x.reports.map K.eR)]
def fall:Nat->List (Fil α β)->List Blk
 |_,[]=>[]
 |b,x::l=>Qgg K b x++fall (b+5) l
def frp(x:Fil α β):List A:=[.int .i64 x.number,.rsl K.kF (x.r0.map K.eF),.rsl K.kF (x.r1.map K.eF),.rsl K.kF (x.r2.map K.eF),.rsl K.kR (x.reports.map K.eR),.bool x.appeal]
def fent:Nat->List (Fil α β)->List (Int×Nat)
 |_,[]=>[]
 |b,x::l=>(x.number,b)::fent (b+5) l
def ptr0(j:Nat):A:=.ptr j 0
def rpE(x:Fil α β):A:=.rp (frp K x)
def fnum(fs:List (Fil α β)):List (Int×Fil α β):=fs.map λx=>(x.number,x)
theorem QdW(b:Nat)(x:Fil α β)(l:List (Fil α β)):fall K b (x::l)=Qgg K b x++fall K (b+5) l:=rfl
theorem QgK(b:Nat)(x:Fil α β):(Qgg K b x).length=5:=rfl
end
section
variable {fr ro ro':Nat->Prop} {σ:Sig} {w:World}
theorem QcL(sub:∀c,ro c->ro' c){i t k:Nat}{es:List (List A)}{v:Value}(r:∀b,σ[i]?=some (some b)->BR ro σ w (.row t k es) (some b)/\ro' b)(h:VR ro σ w (.osl i 0 es.length k) v):VR ro' [] w (.rsl k es) v:=by
 rcases h with⟨z,h⟩|⟨b,p,a,y,m,f,h,B,⟨d,e⟩,u,x⟩
 .have:es=[]:=(by grind);subst this;exact⟨none,0,h,XM _,.inl rfl⟩
 .refine⟨_,a,h,d,?_⟩;by_cases j:es=[]
  .exact .inl j
  .right;have E:0<a:=X8 (by grind) d;obtain⟨⟨l,n,s⟩,g⟩:=r b f;refine⟨b,0,by simp,g,?_⟩;have:=YA (pre:=[]) (by simpa using n) s;exact this.keep ⟨sub,λ_ _=>rfl,λ_ _ q=>q,λ_ _ q=>q⟩ rfl
theorem QiA{ro:Nat->Prop}{w:World}{b t:Nat}:∀{cs:List A} {pre l:List Value},w.heap[b]?=some (.cells (pre++l).toArray t (0,0))->LR ro [] w cs l->(∀v∈l,Qv v)->CR ro [] w b cs pre.length
 |[],pre,l,_,_,_=>trivial
 |a::cs,pre,l,hb,hl,hp=>by
  obtain⟨v,l',rfl,h1,h2⟩:=hl;refine⟨⟨v,?_,hp v (by simp),h1⟩,?_⟩
  .unfold World.cell?
   grind
  .have:=QiA (pre:=pre++[v]) (by simpa using hb) h2 (by grind)
   grind
variable {α β:Type} (K:FK α β)
theorem Qi0(sub:∀c,ro c->ro' c){b:Nat}{x:Fil α β}{v:Value}(f:∀(d c:Nat) (y:Blk),(Qgg K b x)[d]?=some y->σ[b+d]?=some (some c)->BR ro σ w y (some c)/\ro' c)(h:VR ro σ w (.ptr b 0) v):VR ro' [] w (.rp (frp K x)) v:=by
 obtain⟨c,j,r⟩:=h;obtain⟨⟨l,m,a,k⟩,s⟩:=f 0 c _ rfl j;refine⟨c,0,r,s,(QiA (pre:=[]) (by simpa using m) ?_ k)⟩;obtain⟨v0,B,rfl,n,a⟩:=a;obtain⟨q,E,rfl,F,a⟩:=a;obtain⟨u,H,rfl,J,a⟩:=a;obtain⟨p,L,rfl,M,a⟩:=a;obtain⟨g,G,rfl,N,a⟩:=a;obtain⟨i,z,rfl,t,a⟩:=a;refine⟨v0,_,rfl,n,q,_,rfl,QcL sub (λc e=>f 1 c _ rfl e) (by grind),u,_,rfl,QcL sub (λc e=>f 2 c _ rfl e) (by grind),p,_,rfl,QcL sub (λc e=>f 3 c _ rfl e) (by grind),
  g,_,rfl,QcL sub (λc e=>f 4 c _ rfl e) (by grind),i,_,rfl,t,a⟩
theorem Qiu(sub:∀c,ro c->ro' c){ek:Int->A}(hek:∀(k:Int) (v:Value),VR ro σ w (ek k) v->VR ro' [] w (ek k) v):∀{b:Nat} {fs:List (Fil α β)} {es:List MapEntry},(∀(d c:Nat) (y:Blk),(fall K b fs)[d]?=some y->σ[b+d]?=some (some c)->BR ro σ w y (some c)/\ro' c)->
  ER ro σ w (Qh ek ptr0 (fent b fs)) es->ER ro' [] w (Qh ek (rpE K) (fnum fs)) es
 |b,[],es,_,h=>h
 |b,x::l,es,hb,h=>by
  obtain⟨e,l',rfl,h1,h2,h3⟩:=h;refine⟨e,l',rfl,hek _ _ h1,?_,?_⟩
  .refine Qi0 K sub (λd c y hy hc=>hb d c y ?_ hc) h2
   grind[QdW]
  .refine Qiu sub hek (λd c y hy hc=>hb (d+5) c y ?_ (by grind)) h3
   grind[QdW,QgK]
end
section
variable {fr ro:Nat->Prop} {σ:Sig} {w:World} {α β:Type} (K:FK α β)
end
open Go.Sort Go.Proofs Go.Shelf
end Go.Sw
namespace Go.Sw
structure Pl where
 b:Nat
 i0:Nat
 i1:Nat
 i2:Nat
 i3:Nat
def Pl.ix(p:Pl):List Nat:=[p.b,p.i0,p.i1,p.i2,p.i3]
section
variable {α β:Type} (K:FK α β)
def QfM(p:Pl)(x:Fil α β):List A:=[.int .i64 x.number,.osl p.i0 0 x.r0.length K.kF,.osl p.i1 0 x.r1.length K.kF,.osl p.i2 0 x.r2.length K.kF,.osl p.i3 0 x.reports.length K.kR,.bool x.appeal]
structure QbN (H:Qc) (x:Fil α β) (p:Pl):Prop where
 c:H[p.b]?=some (.cells K.T (QfM K p x))
 r0:H[p.i0]?=some (.row K.tF K.kF (x.r0.map K.eF))
 r1:H[p.i1]?=some (.row K.tF K.kF (x.r1.map K.eF))
 r2:H[p.i2]?=some (.row K.tF K.kF (x.r2.map K.eF))
 r3:H[p.i3]?=some (.row K.tR K.kR (x.reports.map K.eR))
abbrev Qhi(α β:Type):=List (Fil α β×Pl)
structure Qa8 (lo:Nat) (H:Qc) (bk:Qhi α β):Prop where
 laid:∀e∈bk,QbN K H e.1 e.2
 own:∀e∈bk,e.2.ix.Nodup
 ne:bk.Pairwise λe f=>∀i∈e.2.ix,i∉f.2.ix
 lo:∀e∈bk,∀i∈e.2.ix,lo<=i
 num:(bk.map (·.1.number)).Nodup
variable {K} {lo:Nat} {H H':Qc} {bk l r:Qhi α β} {e:Fil α β×Pl} {x':Fil α β} {p':Pl}
theorem Qa8.nil:Qa8 K lo H []:=⟨(λ_ h=>by cases h),(λ_ h=>by cases h),List.Pairwise.nil,(λ_ h=>by cases h),List.nodup_nil⟩
theorem QbN.lt(h:QbN K H e.1 e.2):∀i∈e.2.ix,i<H.length:=by
 intro i a;have g:∀{j:Nat} {y:Blk},H[j]?=some y->j<H.length:=(by grind);simp[Pl.ix,XY,List.not_mem_nil,or_false]at a;rcases a with rfl|rfl|rfl|rfl|rfl
 .exact g h.c
 .exact g h.r0
 .exact g h.r1
 .exact g h.r2
 .exact g h.r3
theorem QbN.keep(h:QbN K H e.1 e.2)(k:∀i∈e.2.ix,H'[i]?=H[i]?):QbN K H' e.1 e.2:=by
 refine⟨?_,?_,?_,?_,?_⟩
 .rw[k _ (by simp[Pl.ix])];exact h.c
 .rw[k _ (by simp[Pl.ix])];exact h.r0
 .rw[k _ (by simp[Pl.ix])];exact h.r1
 .rw[k _ (by simp[Pl.ix])];exact h.r2
 .rw[k _ (by simp[Pl.ix])];exact h.r3
theorem Qa8.keep(h:Qa8 K lo H bk)(k:∀j,lo<=j->j<H.length->H'[j]?=H[j]?):Qa8 K lo H' bk:=
 ⟨λe he=>(h.laid e he).keep λi hi=>k i (h.lo e he i hi) ((h.laid e he).lt i hi),h.own,h.ne,h.lo,h.num⟩
theorem Qa8.upd(h:Qa8 K lo H (l++e::r))(t:QbN K H' x' p')(E:x'.number=e.1.number)(w:∀j,lo<=j->j<H.length->j∉e.2.ix->H'[j]?=H[j]?)
  (hi:∀i∈p'.ix,i∈e.2.ix\/H.length<=i)(y:p'.ix.Nodup)(F:lo<=H.length):Qa8 K lo H' (l++(x',p')::r):=by
 obtain⟨x,u,G⟩:=List.pairwise_append.1 h.ne;obtain⟨B,z⟩:=Xc.1 u;have mem:∀f∈l++(x',p')::r,f=(x',p')\/(f∈l++e::r/\ ∀i∈f.2.ix,i∉e.2.ix):=by
  intro f a
  grind
 refine⟨?_,?_,?_,?_,?_⟩
 .intro f a;rcases mem f a with rfl|⟨m,p⟩
  .exact t
  .exact(h.laid f m).keep λi hi=>w i (h.lo f m i hi) ((h.laid f m).lt i hi) (p i hi)
 .intro f a;rcases mem f a with rfl|⟨m,p⟩
  .exact y
  .exact h.own f m
 .refine List.pairwise_append.2 ⟨x,Xc.2 ⟨?_,z⟩,?_⟩
  .intro f a i d k;rcases hi i d with q|q
   .grind
   .have:=(h.laid f (by simp[a])).lt i k;omega
  .intro f a g s i k n;rcases XY.1 s with rfl|s
   .rcases hi i n with q|q
    .grind
    .have:=(h.laid f (by simp[a])).lt i k;omega
   grind
 .intro f a;rcases mem f a with rfl|⟨m,p⟩
  .intro i d;rcases hi i d with q|q
   .exact h.lo e (by simp) i q
   .omega
  .exact h.lo f m
 .have:=h.num
  grind
theorem Qa8.add(h:Qa8 K lo H bk)(k:QbN K H' x' p')(s:∀e∈bk,e.1.number≠x'.number)(l:∀j,lo<=j->j<H.length->H'[j]?=H[j]?)
  (hi:∀i∈p'.ix,H.length<=i)(n:p'.ix.Nodup)(t:lo<=H.length):Qa8 K lo H' (bk++[(x',p')]):=by
 have p:=h.keep l;have mem:∀f∈bk++[(x',p')],f∈bk\/f=(x',p'):=by
  simp
 refine⟨?_,?_,?_,?_,?_⟩
 .intro f d;rcases mem f d with q|rfl
  .exact p.laid f q
  .exact k
 .intro f d;rcases mem f d with q|rfl
  .exact h.own f q
  .exact n
 .refine List.pairwise_append.2 ⟨h.ne,by simp,λf d g r i a m=>?_⟩;have:=(h.laid f d).lt i a
  grind
 .intro f d i a;rcases mem f d with q|rfl
  .exact h.lo f q i a
  grind
 .rw[Xf];refine List.nodup_append.2 ⟨h.num,by simp,?_⟩
  grind
end
section
variable {fr ro ro':Nat->Prop} {σ:Sig} {w:World} {α β:Type} (K:FK α β)
def Qh8(bk:Qhi α β):List Nat:=bk.flatMap λe=>e.2.ix
theorem Qa8.all{lo:Nat}{H:Qc}:∀{f:Qhi α β},Qa8 K lo H f->(Qh8 f).Nodup/\ ∀i∈Qh8 f,lo<=i/\ ∃y,H[i]?=some y/\y.live=true:=by
 intro f h;refine⟨?_,?_⟩
 .have k:=h.own;have j:=h.ne
  grind[Qh8]
 .intro i a;obtain⟨e,g,a⟩:=List.mem_flatMap.1 a;refine⟨h.lo e g i a,?_⟩;have d:=h.laid e g;simp[Pl.ix,XY,List.not_mem_nil,or_false]at a;rcases a with rfl|rfl|rfl|rfl|rfl
  .exact⟨_,d.c,rfl⟩
  .exact⟨_,d.r0,rfl⟩
  .exact⟨_,d.r1,rfl⟩
  .exact⟨_,d.r2,rfl⟩
  .exact⟨_,d.r3,rfl⟩
end
section
variable {α β:Type} (K:FK α β) {env:Env} {H:Qc}
end
section
variable {P:Program} {h0 N:Nat} {all:Array Oper} {o:Oper} {l:List Oper} {env:Env} {H:Qc} {Q:Qx}
end
section
variable {h0 n:Nat} {env env':Env} {H H':Qc}
end
section
variable {P:Program} {o:Oper} {env:Env} {H:Qc} {α:Type}
end
section
variable {α β:Type}
def newF(k:Int):Fil α β:=⟨k,[],[],[],[],false⟩
variable (K:FK α β) {lo:Nat} {H H':Qc} {bk:Qhi α β}
def QgG(n:Nat):Pl:=⟨n,n+1,n+2,n+3,n+4⟩
def QcN(n:Nat)(k:Int):Qc:=[.cells K.T (QfM K (QgG n) (newF k)),.row K.tF K.kF [],.row K.tF K.kF [],.row K.tF K.kF [],.row K.tR K.kR []]
theorem QbN.new{k:Int}:QbN K (H++QcN K H.length k) (newF k) (QgG H.length):=by
 have g:∀(j:Nat) (y:Blk),(QcN K H.length k)[j]?=some y->(H++QcN K H.length k)[H.length+j]?=some y:=by
  grind
 exact⟨g 0 _ rfl,g 1 _ rfl,g 2 _ rfl,g 3 _ rfl,g 4 _ rfl⟩
theorem Qgb(n:Nat):(∀i∈(QgG n).ix,n<=i)/\(QgG n).ix.Nodup:=by
 simp_all[Pl.ix,QgG]
variable {K}
theorem Qa8.new{k:Int}(h:Qa8 K lo H bk)(a:∀e∈bk,e.1.number≠k)(d:lo<=H.length):Qa8 K lo (H++QcN K H.length k) (bk++[(newF k,QgG H.length)]):=by
 refine h.add (QbN.new K) a (by grind) (Qgb _).1 (Qgb _).2 d
theorem Qa8.row{l r:Qhi α β}{e:Fil α β×Pl}{x':Fil α β}{d:Pl}{i:Nat}{y:Blk}(h:Qa8 K lo H (l++e::r))(u:lo<=H.length)(g:x'.number=e.1.number)(hi:i∈e.2.ix)(k:i≠e.2.b)(B:d.b=e.2.b)
  (E:H'=(H.set i .dead++[y]).set e.2.b (.cells K.T (QfM K d x')))
  (x:d.ix=e.2.ix.map λj=>bif Nat.beq j i then H.length else j)
  (q:H'[d.i0]?=some (.row K.tF K.kF (x'.r0.map K.eF)))(p:H'[d.i1]?=some (.row K.tF K.kF (x'.r1.map K.eF)))(m:H'[d.i2]?=some (.row K.tF K.kF (x'.r2.map K.eF)))(n:H'[d.i3]?=some (.row K.tR K.kR (x'.reports.map K.eR))):
  Qa8 K lo H' (l++(x',d)::r):=by
 have w:=h.laid e (by simp);have f:=w.lt;have s:e.2.b<H.length:=f _ (by simp[Pl.ix]);refine h.upd ⟨?_,q,p,m,n⟩ g ?_ ?_ ?_ u
 .grind
 .grind[List.getElem?_set_ne,Pl.ix]
 .grind
 .rw[x];have z:=h.own e (by simp);refine List.pairwise_map.2 (List.Pairwise.imp_of_mem ?_ z);intro a b F B t;cases J:Nat.beq a i with
  |true=>
   cases G:Nat.beq b i with
   |true=>simp_all
   |false=>grind
  |false=>
   grind
end
section
variable {fr ro:Nat->Prop} {σ:Sig} {H:Qc} {w:World}
end
section
variable {P:Program} {o:Oper} {env:Env} {H:Qc}
theorem Le.frow{x s i n k t:Nat}{es:List (List A)}(E:lk env s=.osl i 0 n k)(G:H[i]?=some (.frow t k es))(B:es.length=n):Le x env H (up env s (.rsl k es)) H:=by
 intro O F σ N a w r;refine⟨F,σ,⟨r.sim,?_,r.size,r.defers⟩,λ_ q=>q,rfl⟩;intro d;simp only[lk];by_cases q:d=s
 .subst q;rw[Vq];have:=r.env d;rw[E]at this;rcases this with⟨g,f⟩|⟨b,p,e,W,m,g,f,J,⟨P,j⟩,Q,T⟩
  .have:es=[]:=(by grind);subst this;exact⟨none,0,by rw[f];rfl,XM _,.inl rfl⟩
  .obtain⟨M,l,u,L,R⟩:=r.sim.blk i _ _ g G;refine⟨_,e,by rw[f,B],by omega,?_⟩;by_cases y:es=[]
   .exact .inl y
   .right;have h:0<e:=(by grind);have V:=J h;exact⟨b,0,by simp,M,(YA (pre:=[]) (by simpa using u) L)⟩
 .have:Nat.beq d s=false:=by
   cases z:Nat.beq d s with
   |true=>simp_all
   |false=>rfl
  rw[this];exact r.env d
end
open Go.MapKept
section
variable {P:Program} {kt et:Nat} {α β:Type} [DecidableEq α] {ek:α->A} {ev:β->A} {ro:Nat->Prop} {σ:Sig} {w:World} (K:YX P kt ek)
include K
variable {o:Oper} {env:Env} {H:Qc} {T T' i:Nat} {x y:Operand} {l m:List (α×β)} {k:α}
end
end Go.Sw
namespace Go.Sw
section
variable {P:Program} {h0 N:Nat} {all:Array Oper} {o1 o2:Oper} {l:List Oper} {env:Env} {H:Qc} {Q:Qx}
end
section
variable {P:Program} {o:Oper} {env:Env} {H:Qc}
end
section
variable {P:Program} {o:Oper} {env:Env} {H:Qc} {α:Type}
end
theorem Qgt{h0:Nat}{env:Env}{H H':Qc}(e:H=H'):Le h0 env H env H':=e▸Le.refl h0 env H
section
variable {P:Program} {o:Oper} {env:Env} {H:Qc}
end
section
variable {env:Env} {H:Qc}
theorem Qax{h0 i j m o' n k T:Nat}{x:Blk}{d:List A}(hi:H[i]?=some x)(G:H[j]?=some (.cells T d))(u:d[m]?=some (.osl i o' n k))(s:Nat.beq i j=false)(W:Nat.ble h0 H.length=true):
  Le h0 env H env ((H.set i .dead).set j (.cells T (d.set m (.osl H.length o' n k)))++[x]):=by
 intro fr B σ N a w r;have hiσ:i<σ.length:=by rw[r.sim.len];exact(XF.1 hi).1
 have hσ:σ[i]?=some σ[i]:=XE hiσ;have ext:Ext B σ w B (σ++[σ[i]]) w:=⟨λ_ q=>q,λ_ _=>rfl,λ_ _ q=>q,λ_ _ h=>Qby h⟩;have J:=r.sim.moved hi hσ;have f:j<H.length:=(XF.1 G).1;have z:i≠j:=λq=>by rw[q,Vq]at s;cases s
 have e:(H.set i .dead++[x])[j]?=some (.cells T d):=by
  rw[XG (by simpa using f),XJ z];exact G
 have R:(H.set i .dead).set j (.cells T (d.set m (.osl H.length o' n k)))++[x]=(H.set i .dead++[x]).set j (.cells T (d.set m (.osl H.length o' n k))):=by
  rw[List.set_append_left _ _ (by simpa using f)]
 rw[R];refine⟨B,σ++[σ[i]],⟨J.weaken e rfl ?_,λq=>(r.env q).mono ext,r.size,r.defers⟩,λ_ q=>q,QB (by rw[r.sim.len];exact XL W)⟩;have g:σ.length=H.length:=r.sim.len;intro y h;cases y with
 |none=>exact h
 |some b=>
  obtain⟨l,P,Y,O⟩:=h;refine⟨l,P,?_,O⟩;clear P O e R G J
  induction d generalizing m l with
  |nil=>cases u
  |cons c d X=>
   obtain⟨v,F,rfl,Q,L⟩:=Y;cases m with
   |zero=>
    simp at u;subst u;refine⟨v,F,rfl,?_,L⟩;rcases Q with h|⟨b,p,E,t,m,M,V⟩
    .exact .inl h
    .refine .inr ⟨b,p,E,t,m,?_,V⟩;rw[XG hiσ,hσ]at M;rw[<- g];simpa using M
   |succ m=>exact⟨v,F,rfl,Q,X (by simpa using u) F L⟩
theorem OpU.ins{P:Program}{o:Oper}{H':Qc}{T:Nat}{x y e:Operand}(m:o.op=.insert T x y e)(h:OpU P {o with op:=.mapUpdate T x y e} env H H'):OpU P o env H H':=by
 intro f k σ N a w r;obtain⟨g,d,τ,j,l,i⟩:=h f k σ N a w r;exact⟨g,d,τ,by simpa only[execOp,m]using j,l,i⟩
end
section
variable {P:Program} {o:Oper} {env:Env} {H:Qc} {T kt et:Nat} {α β:Type} [DecidableEq α] {ek:α->A} {ev:β->A} {x y:Operand} {i:Nat} {l:List (α×β)} {k:α} {z:Value} {zA:A}
end
open Go.Sort Go.Proofs Go.Shelf
def insL(l:List Int)(i:Int)(m:List Int):Option (List Int):=bif decide (0<=i)&&(decide (i<=l.length)&&(Nat.blt 0 m.length&&Nat.ble (l.length+m.length) Yz))then some (l.take i.toNat++m++l.drop i.toNat)else none
theorem QiL{l m r:List Int}{i:Int}(h:insL l i m=some r):∃j:Nat,i=j/\j<=l.length/\0<m.length/\l.length+m.length<=Yz/\r=l.take j++m++l.drop j:=by
 unfold insL at h;cases q:decide (0<=i)&&(decide (i<=l.length)&&(Nat.blt 0 m.length&&Nat.ble (l.length+m.length) Yz))with
 |false=>rw[q]at h;cases h
 |true=>
  rw[q]at h;cases h;simp only[XP,decide_eq_true_eq]at q;obtain⟨e,f,a,d⟩:=q;exact⟨i.toNat,by omega,by omega,by simpa using a,XL d,rfl⟩
theorem YP(b:Nat)(t:TypeId):∀(vs pre d a:List Value) (w:World),d.length=vs.length->w.heap[b]?=some (.cells (pre++d++a).toArray t (0,0))->
  w.setCells b pre.length vs={w with heap:=w.heap.setIfInBounds b (.cells (pre++vs++a).toArray t (0,0))}
 |[],pre,d,a,w,hl,hb=>by
  have:=Vu.1 hl;subst this;rw[World.setCells];obtain⟨h1,h2⟩:=X5.1 hb;have:w.heap.setIfInBounds b (.cells (pre++[]++a).toArray t (0,0))=w.heap:=by
   apply Array.ext_getElem?;intro i;rw[X7];by_cases h:b=i
   .subst h;rw[Vk rfl,Vk h1,hb]
   .rw[Vj h]
  rw[this]
 |v::vs,pre,d,a,w,hl,hb=>by
  cases d with
  |nil=>cases hl
  |cons z d=>
   simp[XT,Nat.add_right_cancel_iff]at hl;have hbl:=(X5.1 hb).1;have e:w.setCell ⟨b,pre.length,none⟩ v={w with heap:=w.heap.setIfInBounds b (.cells ((pre++[v])++d++a).toArray t (0,0))}:=by
    unfold World.setCell;congr 1;apply Array.ext_getElem?;intro i;rw[Array.getElem?_modify,X7];by_cases h:b=i
    .subst h;rw[Vk rfl,Vk rfl,Vk hbl,hb];simp
    .rw[Vj h,Vj h]
   rw[World.setCells,e];have:=YP b t vs (pre++[v]) d a {w with heap:=w.heap.setIfInBounds b (.cells ((pre++[v])++d++a).toArray t (0,0))} hl (by
    rw[X7,Vk rfl,Vk hbl])
   rw[XV,List.length_singleton]at this;rw[this];simp
theorem QaQ(l:List Int):∀v∈l.map (Value.int .i64),v.oneCell'=true:=by
 intro v a;obtain⟨x,_,rfl⟩:=Xe.1 a;rfl
theorem Qei{ro:Nat->Prop}{σ:Sig}{w:World}:∀l:List Int,LR ro σ w ((l.map λx=>[A.int .i64 x]).flatten) (l.map (Value.int .i64))
 |[]=>rfl
 |x::l=>⟨_,_,rfl,rfl,Qei l⟩
theorem Qdb(l:List Int):∀v∈l.map (Value.int .i64),Qv v:=by
 intro v a;obtain⟨x,_,rfl⟩:=Xe.1 a;trivial
theorem Qcd:∀l:List Int,allK 1 (l.map λx=>[A.int .i64 x])
 |[]=>trivial
 |_::l=>⟨rfl,Qcd l⟩
theorem Qjv{fr ro:Nat->Prop}{σ:Sig}{t:Nat}{B:Blk}{l r:List Int}{w W:World}{rest:List Value}(s:Sim fr ro σ [.row t 1 (l.map λx=>[A.int .i64 x]),B] w)
  (g:W.heap=(w.alloc (.cells (r.map (Value.int .i64)++rest).toArray t)).heap)(d:W.os=w.os)(a:W.tape=w.tape)(e:W.output=w.output)(f:w.drawn<=W.drawn):
  Sim fr ro (σ++[some w.heap.size]) [.dead,B,.row t 1 (r.map λx=>[A.int .i64 x])] W/\Qj fr ro w ro W:=by
 have i:=s.kill 0;obtain⟨j,h⟩:Sim fr ro (σ++[some w.heap.size]) ([.dead,B]++[.row t 1 (r.map λx=>[A.int .i64 x])]) (w.alloc (.cells (r.map (Value.int .i64)++rest).toArray t))/\Qj fr ro w ro (w.alloc (.cells (r.map (Value.int .i64)++rest).toArray t)):=
  ⟨Sim.allocRow i (Qcd r) (Qei r) (Qdb r),Qj.alloc _ s.roLt s.frLt⟩
 exact⟨j.heap g,h.trans (Qj.heap g d a e f)⟩
theorem QhG{fr ro:Nat->Prop}{σ:Sig}{t b:Nat}{B:Blk}{l r:List Int}{w:World}{a rest:List Value}(s:Sim fr ro σ [.row t 1 (l.map λx=>[A.int .i64 x]),B] w)(d:σ[0]?=some (some b))
  (h:w.heap[b]?=some (.cells a.toArray t (0,0)))(e:(r.map (Value.int .i64)++rest).length=a.length):
  Sim fr ro (σ++[some b]) [.dead,B,.row t 1 (r.map λx=>[A.int .i64 x])] {w with heap:=w.heap.setIfInBounds b (.cells (r.map (Value.int .i64)++rest).toArray t (0,0))}/\
   Qj fr ro w ro {w with heap:=w.heap.setIfInBounds b (.cells (r.map (Value.int .i64)++rest).toArray t (0,0))}:=by
 obtain⟨g,f⟩:=s.set (x':=.row t 1 (r.map λx=>[A.int .i64 x])) d rfl rfl
  (λy i=>Qab h e y i) (λ_ hex=>⟨_,hex,Qaf (Qcd r) (Qei r) (Qdb r)⟩)
 exact⟨g.moved rfl d,f⟩
theorem Qfc{w:World}{a b:Array Value}{t:Nat}(h:a.toList=b.toList):(w.drew.alloc (.cells a t)).heap=(w.alloc (.cells b t)).heap:=by
 rw[Xq.1 h];rfl
theorem YF(b:Nat):∀(vs:List Value) (o:Nat) (w:World),(w.setCells b o vs).os=w.os/\(w.setCells b o vs).tape=w.tape/\(w.setCells b o vs).output=w.output/\(w.setCells b o vs).drawn=w.drawn
 |[],_,_=>⟨rfl,rfl,rfl,rfl⟩
 |v::vs,o,w=>YF b vs (o+1) (w.setCell ⟨b,o,none⟩ v)
theorem QeS{h:Array Obj}{a b:Obj}:(h.push a).setIfInBounds h.size b=h.push b:=by
 apply Array.ext_getElem?;intro i;rw[X7];by_cases q:h.size=i
 .subst q;simp
 .rw[Vj q,Array.getElem?_push,Array.getElem?_push,Vj (λe=>q e.symm),Vj (λe=>q e.symm)]
theorem Qjj{n:Nat}:(Builtin.zeroCells (Value.int .i64 0).cells n).toList.length=n:=by simp[Builtin.zeroCells,Value.cells]
theorem QgI{w:World}{t c j:Nat}{l m:List Int}(g:j<=l.length):
  (((((w.alloc (.cells (((l.map (Value.int .i64)).take j).toArray++Builtin.zeroCells (Value.int .i64 0).cells (l.length+m.length-j)++Builtin.zeroCells (Value.int .i64 0).cells c) t)).drew.setCells w.heap.size j (m.map (Value.int .i64))).drew).setCells w.heap.size (j+m.length) ((l.map (Value.int .i64)).drop j)).heap)=
   (w.alloc (.cells ((l.take j++m++l.drop j).map (Value.int .i64)++(Builtin.zeroCells (Value.int .i64 0).cells c).toList).toArray t)).heap:=by
 have d:=Qjj (n:=l.length+m.length-j);generalize(Builtin.zeroCells (Value.int .i64 0).cells (l.length+m.length-j))=Z1 at*;generalize(Builtin.zeroCells (Value.int .i64 0).cells c)=Z2 at*;rw[show(((l.map (Value.int .i64)).take j).toArray++Z1++Z2)=((l.map (Value.int .i64)).take j++Z1.toList.take m.length++(Z1.toList.drop m.length++Z2.toList)).toArray from by
  apply Xq.1;simp[Array.toList_append,Vb];rw[<- Vb (List.take m.length _),Xu]]
 have f:((l.map (Value.int .i64)).take j).length=j:=by simp;omega
 have a:=YP w.heap.size t (m.map (Value.int .i64)) ((l.map (Value.int .i64)).take j) (Z1.toList.take m.length) (Z1.toList.drop m.length++Z2.toList) (w.alloc (.cells ((l.map (Value.int .i64)).take j++Z1.toList.take m.length++(Z1.toList.drop m.length++Z2.toList)).toArray t)).drew (by simp at d⊢;omega) (Yf _ _);rw[f]at a;have e:=YP w.heap.size t ((l.map (Value.int .i64)).drop j) ((l.map (Value.int .i64)).take j++m.map (Value.int .i64)) (Z1.toList.drop m.length) Z2.toList
  {(w.alloc (.cells ((l.map (Value.int .i64)).take j++Z1.toList.take m.length++(Z1.toList.drop m.length++Z2.toList)).toArray t)).drew with heap:=(w.alloc (.cells ((l.map (Value.int .i64)).take j++Z1.toList.take m.length++(Z1.toList.drop m.length++Z2.toList)).toArray t)).drew.heap.setIfInBounds w.heap.size (.cells ((l.map (Value.int .i64)).take j++m.map (Value.int .i64)++(Z1.toList.drop m.length++Z2.toList)).toArray t (0,0))}.drew (by simp at d⊢;omega) (by
   show((w.heap.push _).setIfInBounds w.heap.size _)[w.heap.size]?=_;simp)
 rw[show((l.map (Value.int .i64)).take j++m.map (Value.int .i64)).length=j+m.length from by simp;omega]at e;rw[a,e];show((w.heap.push _).setIfInBounds w.heap.size _).setIfInBounds w.heap.size _=w.heap.push _;rw[QeS,QeS];simp[Xf,List.map_take,List.map_drop]
theorem Qhh{P:Program}{ρ:Ren}(L:Lays2.n21 P ρ){t2:Nat}{l m r:List Int}{i:Int}(h:insL l i m=some r):
  C P (ρ.f 21) [.osl 0 0 l.length 1,.int .i64 i,.osl 1 0 m.length 1] [.row (ρ.t 3) 1 (l.map λx=>[A.int .i64 x]),.row t2 1 (m.map λx=>[A.int .i64 x])]
   (λa H=>a=.osl 2 0 r.length 1/\H=[.dead,.row t2 1 (m.map λx=>[A.int .i64 x]),.row (ρ.t 3) 1 (r.map λx=>[A.int .i64 x])]):=by
 obtain⟨j,rfl,hj,T,ac,rfl⟩:=QiL h;intro fr ro σ vals w s hv;obtain⟨v0,r0,rfl,ai,v1,r1,rfl,ae,v2,r2,rfl,aj,hr⟩:=hv;cases(show r2=[]from hr);cases(show v1=.int .i64 (j:Int)from ae);have an:Yz=4294967296:=rfl;have aa:σ.length=2:=s.len;rcases aj with⟨h0,_⟩|⟨G,vp,Y,vt,vm,g1,rfl,g2,g3,g4,g5⟩
 .omega
 obtain rfl:vp=0:=by have:=g2 (by omega);omega
 obtain⟨ao,f1,f2⟩:=s.blk 1 _ _ g1 rfl;obtain⟨ah,rfl⟩:=Qew f2;have y:∀(k:Nat) v,(m.map (Value.int .i64))[k]?=some v->w.cell? ⟨G,0+k,none⟩=some v:=by
  intro k v E;unfold World.cell?;simp only[f1,Option.isSome_none,Xh,if_false,Xr];rw[QaF,XG (by rw[XU];have:=(XF.1 E).1;rw[XU]at this;exact this)];exact E
 have F:(l.take j++m++l.drop j).length=l.length+m.length:=by simp;omega
 have u:∀(c0:Nat) (W:World) (zs:List Value) (e:Value),zs.length=grownCap w (l.length+m.length) c0 (ρ.t 3)-(l.length+m.length)->W.heap=(w.alloc (.cells ((l.take j++m++l.drop j).map (Value.int .i64)++zs).toArray (ρ.t 3))).heap->W.os=w.os->W.tape=w.tape->W.output=w.output->w.drawn<=W.drawn->
   e=.slice (some ⟨w.heap.size,0,none⟩) (l.length+m.length) (grownCap w (l.length+m.length) c0 (ρ.t 3))->
   ∃v r H' ro' τ,Ending.returned e=.returned v/\(r=.osl 2 0 (l.take j++m++l.drop j).length 1/\H'=[.dead,.row t2 1 (m.map λx=>[A.int .i64 x]),.row (ρ.t 3) 1 ((l.take j++m++l.drop j).map λx=>[A.int .i64 x])])/\Sim fr ro' (σ++τ) H' W/\VR ro' (σ++τ) W r v/\Qj fr ro w ro' W:=by
  intro c0 W zs e hz hh hos htp hou hdr he;obtain⟨s1,e1⟩:=Qjv s hh hos htp hou hdr;have af:=grownCap_ge w (l.length+m.length) c0 (ρ.t 3);refine⟨_,_,_,ro,[some w.heap.size],rfl,⟨rfl,rfl⟩,s1,?_,e1⟩;rw[he];refine .inr ⟨w.heap.size,0,_,ρ.t 3,((l.take j++m++l.drop j).map (Value.int .i64)++zs).length,?_,by rw[F],λ_=>by simp,⟨by rw[F];exact af,grownCap_le_maxLen _ _ _ _ (by unfold maxLen;omega)⟩,?_,?_⟩
  .rw[XH (by omega),aa];rfl
  .unfold World.shape?;rw[hh,Yf];simp
  .rw[XV,XU,F,hz];omega
 have fin:∀{W:World} {b n t' R:Nat} (z:Nat),l.length+m.length<=n->n<=9223372036854775807->W.shape? b=some (t',R)->(0+n)*1<=R->z=l.length+m.length->VR ro (σ++[some b]) W (.osl 2 0 (l.take j++m++l.drop j).length 1) (.slice (some ⟨b,0,none⟩) z n):=by
  intro W b n t' R z h1 h2 h3 h4 h5;refine .inr ⟨b,0,n,t',R,?_,by rw[F,h5],λ_=>by simp,⟨by rw[F];exact h1,h2⟩,h3,h4⟩;rw[XH (by omega),aa];rfl
 rcases ai with⟨h0,rfl⟩|⟨b,p,n,t',R,q1,rfl,q2,q3,q4,q5⟩
 .have ad:l=[]:=Vu.1 h0;subst ad;obtain rfl:j=0:=by simpa using hj
  have J:=Any2.slices_Insert_int_end_grow L none 0 0 G 0 m.length Y [] (m.map (Value.int .i64)) w T (XM _) (by omega) (by simp at ac;omega) rfl (by simp) (λ_=>rfl) (λa ha=>by cases ha) y (QaQ m);refine J.mono ?_;rintro e W ⟨rfl,rfl⟩;refine u 0 _ (Builtin.zeroCells (Value.int .i64 0).cells (grownCap w (0+m.length) 0 (ρ.t 3)-(0+m.length))).toList _ (by simp[Builtin.zeroCells,Value.cells]) ?_ rfl rfl rfl (Nat.le_succ _) (by simp);exact Qfc (by simp)
 .obtain⟨q3,N⟩:=q3;obtain⟨am,y1,y2⟩:=s.blk 0 _ _ q1 rfl;obtain⟨d,rfl⟩:=Qew y2;have ag:G≠b:=λe=>by
   have:=s.inj 1 0 G _ _ g1 (e▸q1) rfl rfl rfl rfl;omega
  have al:n<=l.length+d.length:=by
   have:w.shape? b=some (ρ.t 3,(l.map (Value.int .i64)++d).length):=by unfold World.shape?;rw[y1];simp
   rw[this]at q4;cases q4;simp at q5;omega
  have hp:0<n->p=0:=λq=>by have:=q2 q;omega
  have B:∀k v,(l.map (Value.int .i64)++d)[k]?=some v->w.cell? ⟨b,0+k,none⟩=some v:=by
   intro k v E;unfold World.cell?;simp only[y1,Option.isSome_none,Xh,if_false,Xr];rw[QaF];exact E
  have O:∀(k:Nat) v,(l.map (Value.int .i64))[k]?=some v->w.cell? ⟨b,p+k,none⟩=some v:=by
   intro k v E;have M:=(XF.1 E).1;rw[XU]at M;obtain rfl:=hp (by omega);exact B k v (by rw[XG (by rw[XU];exact M)];exact E)
  have V:∀k,w.frozen? ⟨b,k,none⟩=false:=by
   intro k;unfold World.frozen?;simp only[y1];simp
  have X:∀k,w.frozen? ⟨G,k,none⟩=false:=by
   intro k;unfold World.frozen?;simp only[f1];simp
  by_cases g:l.length+m.length<=n
  .obtain rfl:=hp (by omega);have ab:∀k,k<l.length+m.length->(w.cell? ⟨b,0+k,none⟩).isSome=true:=by
    intro k E;have M:k<(l.map (Value.int .i64)++d).length:=by simp;omega
    rw[B k _ (XE M)];rfl
   by_cases Q:j=l.length
   .subst Q;have J:=Any2.slices_Insert_int_end_room L b 0 l.length n G 0 m.length Y (m.map (Value.int .i64)) w T g N (by simp) (λk E=>by simpa[Nat.add_assoc]using ab (l.length+k) (by omega)) (λk _=>V _) y (QaQ m);refine J.mono ?_;rintro e W ⟨rfl,rfl⟩;have e1:w.setCells b (0+l.length) (m.map (Value.int .i64))={w with heap:=w.heap.setIfInBounds b (.cells ((l.take l.length++m++l.drop l.length).map (Value.int .i64)++d.drop m.length).toArray (ρ.t 3) (0,0))}:=by
     have:=YP b (ρ.t 3) (m.map (Value.int .i64)) (l.map (Value.int .i64)) (d.take m.length) (d.drop m.length) w (by simp;omega) (by rw[Vb,Xu];exact y1);rw[XU]at this;rw[Xr,this,X2,Xn];simp
    rw[e1];obtain⟨s2,e2⟩:=QhG (r:=l.take l.length++m++l.drop l.length) (rest:=d.drop m.length) s q1 y1 (by simp;omega);exact⟨_,_,_,ro,[some b],rfl,⟨rfl,rfl⟩,s2,fin _ g N (e2.shape _ _ q4) q5 rfl,e2⟩
   .have J:=Any2.slices_Insert_int_shift L b 0 l.length n j G 0 m.length Y (l.map (Value.int .i64)) (m.map (Value.int .i64)) w (by omega) T g N ag (by simp) (by simp) O ab (λk _=>V _) y (QaQ l) (QaQ m) vt t' vm R g4 q4 (by omega) (X _) (X _);refine J.mono ?_;rintro e W ⟨rfl,rfl⟩;have e1:(w.drew.setCells b (0+(j+m.length)) ((l.map (Value.int .i64)).drop j)).setCells b (0+j) (m.map (Value.int .i64))={w.drew with heap:=w.drew.heap.setIfInBounds b (.cells ((l.take j++m++l.drop j).map (Value.int .i64)++d.drop m.length).toArray (ρ.t 3) (0,0))}:=by
     have ak:b<w.drew.heap.size:=(X5.1 y1).1;have k1:=YP b (ρ.t 3) ((l.map (Value.int .i64)).drop j) ((l.map (Value.int .i64)++d).take (j+m.length)) (((l.map (Value.int .i64)++d).drop (j+m.length)).take (l.length-j)) (((l.map (Value.int .i64)++d).drop (j+m.length)).drop (l.length-j)) w.drew (by simp;omega) (by rw[Vb,Xu,Xu];exact y1);rw[show((l.map (Value.int .i64)++d).take (j+m.length)).length=0+(j+m.length)from by simp;omega]at k1;have k2:=YP b (ρ.t 3) (m.map (Value.int .i64)) ((l.map (Value.int .i64)++d).take j) (((l.map (Value.int .i64)++d).drop j).take m.length) ((l.map (Value.int .i64)).drop j++(((l.map (Value.int .i64)++d).drop (j+m.length)).drop (l.length-j))) {w.drew with heap:=w.drew.heap.setIfInBounds b (.cells ((l.map (Value.int .i64)++d).take (j+m.length)++(l.map (Value.int .i64)).drop j++((l.map (Value.int .i64)++d).drop (j+m.length)).drop (l.length-j)).toArray (ρ.t 3) (0,0))} (by simp;omega) (by
      show(w.drew.heap.setIfInBounds b _)[b]?=_;rw[X7,Vk rfl,Vk ak,List.take_add];simp only[Vb])
     rw[show((l.map (Value.int .i64)++d).take j).length=0+j from by simp;omega]at k2;rw[k1,k2];simp only[Array.setIfInBounds_setIfInBounds];rw[List.drop_drop,show j+m.length+(l.length-j)=(l.map (Value.int .i64)).length+m.length from by simp;omega,X3,XZ (by simpa using hj)];simp only[Xf,List.map_take,List.map_drop,Vb]
    rw[e1];obtain⟨s2,e2⟩:=QhG (w:=w.drew) (r:=l.take j++m++l.drop j) (rest:=d.drop m.length) (s.heap rfl) q1 y1 (by simp;omega);exact⟨_,_,_,ro,[some b],rfl,⟨rfl,rfl⟩,s2,fin _ g N (e2.shape _ _ q4) q5 rfl,(Qj.heap (w:=w) (w':=w.drew) rfl rfl rfl rfl (Nat.le_succ _)).trans e2⟩
  .by_cases Q:j=l.length
   .subst Q;have J:=Any2.slices_Insert_int_end_grow L (some ⟨b,p,none⟩) l.length n G 0 m.length Y (l.map (Value.int .i64)) (m.map (Value.int .i64)) w T q3 (by omega) (by omega) (by simp) (by simp) (λh=>by cases h) (λa ha k v E=>by cases ha;rw[QaL];exact O k v E) y (QaQ m);refine J.mono ?_;rintro e W ⟨rfl,rfl⟩;exact u n _ (Builtin.zeroCells (Value.int .i64 0).cells (grownCap w (l.length+m.length) n (ρ.t 3)-(l.length+m.length))).toList _ (by simp[Builtin.zeroCells,Value.cells]) (Qfc (by simp)) rfl rfl rfl (Nat.le_succ _) rfl
   .have J:=Any2.slices_Insert_int_grow L b p l.length n j G 0 m.length Y (l.map (Value.int .i64)) (m.map (Value.int .i64)) w (by omega) T q3 (by omega) (by omega) (by simp) (by simp) O y (QaQ l) (QaQ m);refine J.mono ?_;rintro e W ⟨rfl,rfl⟩;refine u n _ (Builtin.zeroCells (Value.int .i64 0).cells (grownCap w (l.length+m.length) n (ρ.t 3)-(l.length+m.length))).toList _ (by simp[Builtin.zeroCells,Value.cells]) ?_ (by rw[(YF _ _ _ _).1];exact(YF _ _ _ _).1) (by rw[(YF _ _ _ _).2.1];exact(YF _ _ _ _).2.1) (by rw[(YF _ _ _ _).2.2.1];exact(YF _ _ _ _).2.2.1) (by
     rw[(YF _ _ _ _).2.2.2];show _<=(World.setCells _ _ _ _).drawn+1;rw[(YF _ _ _ _).2.2.2];exact Nat.le_add_right_of_le (Nat.le_add_right _ _)) rfl
    exact QgI (by simpa using hj)
end Go.Sw
namespace Go.Sw
theorem TC.label{P:Program}{h0 N l:Nat}{env:Env}{H:Qc}{Q:Qx}(h:Q .normal env H):TC P h0 N (.label l) env H Q:=
 λrd fr ro σ a w r hrd=>wpIn_label ⟨_,env,H,ro,σ,fr,rfl,h,r,Qj.refl _ _ _,rfl,Grow.refl _ _ _⟩
theorem QeN{P:Program}{b:Frame}{a:Act}{k:List Item}{cs:List Frame}{w:World}{c:Code}:step P (lone (b.atR a (.code (.scope c)::k)) cs w)=.next (lone (b.atR a (.code c::.inScope c::k)) cs w):=
 step_lone_go (by simp[stepG,stepG.exec,Frame.atR])
theorem QdB{P:Program}{b:Frame}{a:Act}{k:List Item}{cs:List Frame}{w:World}{c:Code}:step P (lone (b.atR a (.inScope c::k)) cs w)=.next (lone (b.atR a k) cs w):=
 step_lone_go (by simp[stepG,stepG.exec,Frame.atR])
theorem TC.scope{P:Program}{h0 N:Nat}{c:Code}{env:Env}{H:Qc}{Q:Qx}(h:TC P h0 N c env H Q):TC P h0 N (.scope c) env H Q:=by
 intro y l t σ a w r hrd b k cs hro hb f;obtain⟨e,m,n,j,d⟩:=h y l t σ a w r hrd b (.inScope c::k) cs hro hb f;refine⟨e,m,n,j,.of_steps (.one (fenced_calm hb f rfl) QeN) ?_⟩;obtain⟨x,i,H',p,σ',q,u,_⟩:=j;cases e with
 |normal=>exact StepsIn.trans d (.one (fenced_calm hb f rfl) QdB)
 |exit id=>exact⟨λs g=>d.1 s (by rw[exitTo];exact g;simp),λf g=>d.2 f (by rw[exitTo];exact g;simp)⟩
 |ret=>exact d
 |_=>exact u.elim
theorem QbJ{P:Program}{o:Oper}{env:Env}{H:Qc}{T f off n:Nat}{x:Operand}{e:List A}{v:A}{fs:Array Field}{g:Field}(p:Ym P T f off n)(l:∀w,(underlying T).run P w=.ok (.struct fs) w)(a:fs[f]?=some g)(d:∀w,(isAgg g.type).run P w=.ok false w)
  (m:o.op=.field T x f:=by exact rfl)(hx:opA env x=.agg e:=by exact rfl)(hv:e[off]?=some v:=by exact rfl):OpV P o env H v:=
 OpV.field p (λk i j h w=>by
  have:=(j w).symm.trans (l w);cases this;rw[a]at h;cases h;exact d w) m hx hv
section
variable {P:Program} {o:Oper} {env:Env} {H:Qc} {fr ro:Nat->Prop} {σ:Sig} {w:World}
end
def fnm(P:Program)(i:Nat):String:=match P.funcs[i]? with|some f=>f.name|none=>""
theorem Qer{P:Program}{f:FuncId}{B:Func}(d:(fnm P f=="runtime.NumGoroutine")=false)(h:P.funcs[f]?=some {B with name:=fnm P f}):Go.Proofs.Bears P f B:=⟨_,d,h⟩
def slK(P:Program)(t:Nat):Nat:=match P.underlying t with|some (.slice e)=>e|_=>0
def zA1:A->Value
 |.int k n=>.int k n
 |.bool b=>.bool b
 |.str _=>.string ⟨#[]⟩
 |.rsl _ _=>.slice none 0 0
 |.nils=>.slice none 0 0
 |.nilp=>.pointer none
 |.nilm=>.map none
 |.nilif=>.nilIface
 |_=>.nilFunc
def zA:A->Value
 |.agg r=>.agg (r.map zA1).toArray
 |a=>zA1 a
def kL(P:Program)(F:List (Nat×List (Nat×Nat)))(T:TyX)(Z:TyZ)(w:World):=
 (F.map λe=>(underlying e.1).run P w,F.map λe=>(P.fieldsOf e.1).toList.map λf=>(f.offset,(sizeOf f.type).run P w),
  T.ty.agg.map λe=>((isAgg e.1).run P w,(sizeOf e.1).run P w),T.ty.zer.map λe=>(zeroValue e.1).run P w,
  T.al.map λe=>(zeroValue e.1).run P w,T.sl.map λt=>(underlying t).run P w,Z.sl.map λe=>((underlying e.1).run P w,(sizeOf e.2.1).run P w))
def kR(P:Program)(F:List (Nat×List (Nat×Nat)))(T:TyX)(Z:TyZ)(w:World):=
 (F.map λe=>Result.ok (TypeDesc.struct (P.fieldsOf e.1)) w,F.map λe=>e.2.map λx=>(x.1,Result.ok x.2 w),
  T.ty.agg.map λe=>(Result.ok e.2.1 w,Result.ok e.2.2 w),T.ty.zer.map λe=>Result.ok (zA (.agg e.2.1)) w,
  T.al.map λe=>Result.ok (zA e.2) w,T.sl.map λt=>Result.ok (TypeDesc.slice (slK P t)) w,Z.sl.map λe=>(Result.ok (TypeDesc.slice e.2.1) w,Result.ok e.2.2 w))
def kT(F:List (Nat×List (Nat×Nat)))(T:TyX):Bool:=
 chkF F T.ty.fld&&T.ty.zer.all (λe=>zrB (.agg e.2.1) (zA (.agg e.2.1))&&F.contains (e.1,e.2.2))&&T.al.all λe=>zrB e.2 (zA e.2)&&Q4 e.2&&(QW e.2).all Yd
theorem Qbf{α β:Type}{L:List α}{f g:World->α->β}(h:∀w,L.map (f w)=L.map (g w)){e:α}(he:e∈L)(w:World):f w e=g w e:=List.map_inj_left.1 (h w) e he
theorem PL.ofK{P:Program}:∀{fs:List Field} {pl:List (Nat×Nat)},(∀w:World,fs.map (λf=>(f.offset,(sizeOf f.type).run P w))=pl.map λx=>(x.1,Result.ok x.2 w))->PL P fs pl
 |[],[],_=>.nil
 |[],_::_,h=>by cases h default
 |_::_,[],h=>by cases h default
 |f::fs,(a,n)::pl,h=>by
  have h1:=λw=>List.cons.inj (h w);have e:=λw=>Prod.mk.inj (h1 w).1;obtain rfl:f.offset=a:=(e default).1;exact .cons (λw=>(e w).2) (PL.ofK λw=>(h1 w).2)
section
variable {P:Program} {F:List (Nat×List (Nat×Nat))} {T:TyX} {Z:TyZ}
theorem QiF(h:kL P F T Z=kR P F T Z):∀e∈F,Qdq P e.1 e.2:=λe he=>
 ⟨_,λw=>by simpa using Qbf (f:=λw e=>(underlying e.1).run P w) (λw=>(Prod.mk.inj (congrFun h w)).1) he w,PL.ofK λw=>Qbf (f:=λw e=>(P.fieldsOf e.1).toList.map λf=>(f.offset,(sizeOf f.type).run P w)) (λw=>(Prod.mk.inj (Prod.mk.inj (congrFun h w)).2).1) he w⟩
theorem QaM.ofK(h:kL P F T Z=kR P F T Z)(k:kT F T=true):QaM P T:=by
 have d:=QiF h;simp only[kT,XP,Xo]at k;refine⟨⟨Qjy d k.1.1,λe a=>?_,λe a=>?_⟩,λe a=>?_,λe a=>?_⟩
 .have:=Qbf (f:=λw e=>((isAgg e.1).run P w,(sizeOf e.1).run P w)) (λw=>(Prod.mk.inj (Prod.mk.inj (Prod.mk.inj (congrFun h w)).2).2).1) a;exact⟨λw=>(Prod.mk.inj (this w)).1,λw=>(Prod.mk.inj (this w)).2⟩
 .have:=Qbf (f:=λw e=>(zeroValue e.1).run P w) (λw=>(Prod.mk.inj (Prod.mk.inj (Prod.mk.inj (Prod.mk.inj (congrFun h w)).2).2).2).1) a;have q:=k.1.2 e a;exact⟨⟨_,this,zrC q.1⟩,d _ (List.contains_iff_mem.1 q.2)⟩
 .have:=Qbf (f:=λw e=>(zeroValue e.1).run P w) (λw=>(Prod.mk.inj (Prod.mk.inj (Prod.mk.inj (Prod.mk.inj (Prod.mk.inj (congrFun h w)).2).2).2).2).1) a;have q:=k.2 e a;exact⟨⟨_,this,zrC q.1.1⟩,q.1.2,Xo.2 q.2⟩
 .exact⟨_,Qbf (f:=λw t=>(underlying t).run P w) (λw=>(Prod.mk.inj (Prod.mk.inj (Prod.mk.inj (Prod.mk.inj (Prod.mk.inj (Prod.mk.inj (congrFun h w)).2).2).2).2).2).1) a⟩
theorem Qbu.ofK(h:kL P F T Z=kR P F T Z)(k:∀f∈Z.fn,∀(a:Array Value) (w:World),(callFunc f a).run P w=.ok (.enter f a) w):Qbu P Z:=⟨λe he=>by
 have:=Qbf (f:=λw e=>((underlying e.1).run P w,(sizeOf e.2.1).run P w)) (λw=>(Prod.mk.inj (Prod.mk.inj (Prod.mk.inj (Prod.mk.inj (Prod.mk.inj (Prod.mk.inj (congrFun h w)).2).2).2).2).2).2) he;exact⟨λw=>(Prod.mk.inj (this w)).1,λw=>(Prod.mk.inj (this w)).2⟩,k⟩
theorem QjF{L:List Nat}(h:(λ(a:Array Value) (w:World)=>L.map λf=>(callFunc f a).run P w)=λa w=>L.map λf=>.ok (.enter f a) w):∀f∈L,∀(a:Array Value) (w:World),(callFunc f a).run P w=.ok (.enter f a) w:=
 λf hf a=>Qbf (f:=λw f=>(callFunc f a).run P w) (λw=>congrFun (congrFun h a) w) hf
end
section
variable {P:Program}
theorem QfZ.c{f:Field}{fs:List Field}{h a g:Nat}{d e:List Value->Prop}(k:∀h,QeF P f.type (h+1) 1 false d)(i:QfZ P fs (h+1) (a+1) g e)(j:Nat.beq f.offset a=true:=by exact rfl)(hn:f.name≠"_":=by decide):
  QfZ P (f::fs) (h+1) a (1+g) (λl=>∃l1 l2,l=l1++l2/\d l1/\e l2):=QfZ.cons j hn (k h) (λ_=>rfl) i
theorem RF.c1{n:Nat}{T:Type}{e:T->List A}{wf:T->Prop}{f:Field}{fs:List Field}{off L:Nat}{T2:Type}{e2:T2->List A}{a:T2->Prop}(h:RB P n f.type T e wf)(r:RF P n fs (off+1) L T2 e2 a)(d:f.offset=off:=by exact rfl)(hk:P.cellsOf f.type=1:=by kernel_rfl):
  RF P n (f::fs) off L (T×T2) (λp=>e p.1++e2 p.2) (λp=>wf p.1/\a p.2):=RF.cons d hk h r
end
@[reducible] def Kp{β:Type}(P:Program)(F:Option β)(f:FuncId)(args:List A)(H:Qc)(w:β->A)(H1:β->Qc):Prop:=∀r,F=some r->C P f args H (RQ w H1 r)
theorem Kp.b{β:Type}{P:Program}{F:Option β}{f:FuncId}{fn:Func}{c:Code}{N:Nat}{args:List A}{H:Qc}{w:β->A}{H1:β->Qc}(hf:P.funcs[f]?=some fn)(hb:fn.body=some c)(hN:fn.ntmps=N)(hA:Nat.ble args.length N=true)
  (h:∀r,F=some r->TC P H.length N c (Qa4 0 args) H (YK P H.length fn (RQ w H1 r))):Kp P F f args H w H1:=λr e=>YH hf hb hN hA (h r e)
theorem Qcs{P:Program}{fn:Func}{tmps:Array Value}{R:Ending->World->Prop}{fr ro:Nat->Prop}{σ:Sig}{H:Qc}{tl:List Deferred}:
  ∀(ds:List Deferred) (w:World),ds.Nodup->(∀d∈ds,∃D,d={target:=.collected D,args:= #[]}/\ ¬ro D/\ ¬fr D/\(∀(i:Nat) (x:Blk),σ[i]?=some (some D)->H[i]?=some x->x.live=true->False)/\(∀(i d:Nat) (x:Blk),σ[i]?=some (some d)->H[i]?=some x->Hid w x d D->False)/\w.heap[D]?=some (.deferred (some [])))->
  Sim fr ro σ H w->(∀w',Sim fr ro σ H w'->Qj fr ro w ro w'->LeavesInM Fence.wide 0 P fn tmps R tl .returning w')->LeavesInM Fence.wide 0 P fn tmps R (ds++tl) .returning w
 |[],w,_,_,s,hk=>hk w s (Qj.refl _ _ _)
 |d::ds,w,hn,hd,s,hk=>by
  obtain⟨D,rfl,h1,h2,h3,h5,h4⟩:=hd d (by simp);obtain⟨n1,n2⟩:=List.nodup_cons.1 hn;obtain⟨s',ev⟩:=s.turn (obj:=.deferred none) h1 h2 h3 h5 (λy q=>by grind[World.shape?]);refine⟨(by simp),.inl ⟨D,_,rfl,run_takeDeferred h4,?_⟩⟩;refine Qcs ds _ n2 (λd' q=>?_) s' (λw' q1 q2=>hk w' q1 (ev.trans q2));obtain⟨D',rfl,g1,g2,g3,g5,g4⟩:=hd d' (by simp[q]);refine⟨D',rfl,g1,g2,g3,λi d x z1 z2 z3=>g5 i d x z1 z2 (s.hidKeep z1 z2 (λz=>World.putObj_heap_other (by grind)) (λb q=>World.putObj_heap_other (λe:b=D=>h1 (e▸q))) z3),(World.putObj_heap_other (λe=>?_)).trans g4⟩
  grind
def belA(h:Nat):A->Bool
 |.ptr i _=>Nat.blt i h
 |.int _ _=>true
 |.bool _=>true
 |.rp _=>true
 |_=>false
theorem belA.take{ro:Nat->Prop}{σ:Sig}{w:World}{h:Nat}{a:A}{v:Value}(d:belA h a=true)(q:VR ro σ w a v):VR ro (σ.take h) w a v:=by
 cases a with
 |ptr i o=>
  simp only[VR]at q⊢;obtain⟨b,e,f⟩:=q;have:i<h:=by simpa[belA]using d
  exact⟨b,by rw[List.getElem?_take_of_lt this];exact e,f⟩
 |int k n=>exact q
 |bool b=>exact q
 |rp g=>exact q
 |_=>cases d
theorem belL.take{ro:Nat->Prop}{σ:Sig}{w:World}{h:Nat}:∀{la:List A} {l:List Value},la.all (belA h)=true->LR ro σ w la l->LR ro (σ.take h) w la l
 |[],l,_,q=>q
 |a::r,l,hb,q=>by
  simp only[LR]at q⊢;simp only[List.all_cons,XP]at hb;obtain⟨v,l',h1,h2,h3⟩:=q;exact⟨v,l',h1,belA.take hb.1 h2,belL.take hb.2 h3⟩
theorem Qj.extTake{fr ro ro':Nat->Prop}{w w':World}(h:Qj fr ro w ro' w'){σ σ':Sig}{n:Nat}(e:σ'.take n=σ.take n):Ext ro (σ.take n) w ro' σ' w':=
 ⟨(h.ext σ []).sub,(h.ext σ []).keep,(h.ext σ []).shape,λi b q=>by
  rw[<- e]at q;by_cases hi:i<n
  .rw[List.getElem?_take_of_lt hi]at q;exact q
  .rw[XI (by simp;omega)]at q;cases q⟩
def Qfl(h0:Nat)(fr ro:Nat->Prop)(σ:Sig)(w:World)(N:Nat)(ds:List Deferred)(Q0:Qx)(QD:Nat->FuncId->List A->Qx):Exit->Act->World->Prop:=
 λe a' w'=>Qan h0 fr ro σ w N ds Q0 e a' w'\/ ∃x env' H' ro' σ' fr' h1 f caps capv,ExR e x/\QD h1 f caps x env' H'/\Rel fr' ro' σ' H' env' N a' w'/\Qj fr ro w ro' w'/\σ'.take h0=σ.take h0/\h0<=h1/\
  LR ro' (σ'.take h1) w' caps capv/\Grow fr w ({target:=.fn (.func f) capv.toArray,args:= #[]}::ds) fr' a'.defers
def TCs(P:Program)(h0 N:Nat)(c:Code)(env:Env)(H:Qc)(Q0:Qx)(QD:Nat->FuncId->List A->Qx):Prop:=
 ∀fr ro σ a w,Rel fr ro σ H env N a w->(∀d∈a.defers,¬Qgo d)->c.wpIn (WF none) 0 P (Qfl h0 fr ro σ w N a.defers Q0 QD) a w
def SeqS(P:Program)(h0 N:Nat)(c:Code)(Q0:Qx)(QD:Nat->FuncId->List A->Qx):Qx
 |.normal,env,H=>TCs P h0 N c env H Q0 QD
 |.exit id,env,H=>Q0 (.exit id) env H
 |.ret,env,H=>Q0 .ret env H
section
variable {P:Program} {h0 N:Nat} {env env':Env} {H H':Qc} {Q0:Qx} {QD:Nat->FuncId->List A->Qx} {c c':Code}
theorem sqN(h:TCs P h0 N c env H Q0 QD):SeqS P h0 N c Q0 QD .normal env H:=h
theorem sqR(h:Q0 .ret env H):SeqS P h0 N c Q0 QD .ret env H:=h
theorem Grow.noReal{fr fr':Nat->Prop}{w:World}{ds ds':List Deferred}(h:Grow fr w ds fr' ds')(k:∀d∈ds,¬Qgo d):∀d∈ds',¬Qgo d:=λd hd=>by
 rcases h.ds d hd with q|⟨D,rfl,_⟩
 .exact k d q
 .rintro⟨fv,cap,e⟩;simp at e
theorem Qfl.grow{fr g ro j:Nat->Prop}{σ σ1:Sig}{w s:World}{ds i:List Deferred}{e:Exit}{a':Act}{w':World}
  (h:Qfl h0 g j σ1 s N i Q0 QD e a' w')(he:Qj fr ro w j s)(r:σ1.take h0=σ.take h0)(hg:Grow fr w ds g i):Qfl h0 fr ro σ w N ds Q0 QD e a' w':=by
 rcases h with h|⟨x,l,H',m,σ',n,E,f,k,a,t,F,B,z,H,y,u,G⟩
 .exact .inl (h.grow he r hg)
 .refine .inr ⟨x,l,H',m,σ',n,E,f,k,a,t,F,B,he.trans (z.frMono hg.sub),H.trans r,y,u,?_⟩;have p:Grow fr w ({target:=.fn (.func f) a.toArray,args:= #[]}::ds) g ({target:=.fn (.func f) a.toArray,args:= #[]}::i):=by
   refine⟨hg.sub,hg.new,λd q=>?_,λd q=>?_⟩
   .rcases XY.1 q with rfl|q
    .simp
    .exact XX _ (hg.kd d q)
   .rcases XY.1 q with rfl|q
    .simp
    .exact(hg.ds d q).imp (XX _) id
  exact p.trans he.size G
theorem TCs.seq(h:TC P h0 N c env H (SeqS P h0 N c' Q0 QD)):TCs P h0 N (.seq c c') env H Q0 QD:=by
 intro p u σ a w r hn;refine wpIn_seq (Code.wpIn_mono ?_ (h none p u σ a w r Qav));rintro e t s ⟨x,d,H',f,σ',g,i,n,m,k,l,j⟩;cases e with
 |normal=>
  obtain rfl:x=.normal:=i;exact Code.wpIn_mono (λe a w q=>q.grow k l j) (n g f σ' t s m (j.noReal hn))
 |exit id=>
  obtain rfl:x=.exit id:=i;exact .inl ⟨_,d,H',f,σ',g,rfl,n,m,k,l,j⟩
 |ret=>
  obtain rfl:x=.ret:=i;exact .inl ⟨_,d,H',f,σ',g,rfl,n,m,k,l,j⟩
 |_=>exact i.elim
theorem TCs.defer{j h:Oper}{d id f:Nat}{caps:List A}(W:OpV P j env H (.fn (.func f) [] caps))(O:h0<=H.length)(Q:caps.all (belA H.length)=true)
  (k:TC P H.length N c' (up env d (.fn (.func f) [] caps)) H (QD H.length f caps))
  (F:j.dst=some d:=by exact rfl)(hg1:Qt [j,h].toArray j env true:=by exact rfl)(hg2:Qt [j,h].toArray h (up env d (.fn (.func f) [] caps)) true:=by exact rfl)(hN:Nat.blt d N=true:=by exact rfl)
  (i:∃M,h.op=.defer ⟨.value (.tmp d), #[],M⟩:=by exact⟨_,rfl⟩)(hd2:h.dst=none:=by exact rfl):TCs P h0 N (.seq (.region id [j,h].toArray false) c') env H Q0 QD:=by
 intro fr m σ a w r hn;have z:d<N:=by simp_all
 have E:d<a.tmps.size:=by rw[r.size];exact z
 obtain⟨v,n,J⟩:=W fr m σ N a w r;obtain⟨X,g,rfl,B,p⟩:=J;obtain rfl:X=[]:=B;obtain⟨M,i⟩:=i
 let a1:Act:={a with tmps:=a.tmps.setIfInBounds d (.func (.func f) #[] g.toArray)}
 let D0:Deferred:={target:=.fn (.func f) g.toArray,args:= #[]}
 have u:Rel fr m σ H (up env d (.fn (.func f) [] caps)) N a1 w:=⟨r.sim,VR.up (fr:=fr) r.env E ⟨[],g,rfl,rfl,p⟩,by simpa[a1]using r.size,r.defers⟩;have r2:Rel fr m σ H (up env d (.fn (.func f) [] caps)) N {a1 with defers:=D0::a.defers} w:=by
  refine⟨u.sim,u.env,u.size,List.nodup_cons.2 ⟨λq=>hn _ q ⟨_,_,rfl⟩,r.defers.1⟩,λd' l=>?_⟩;rcases XY.1 l with rfl|l
  .exact .inr ⟨_,_,rfl⟩
  .exact r.defers.2 d' l
 have Y:a1.eval (.tmp d)=.func (.func f) #[] g.toArray:=by
  show(a.tmps.setIfInBounds d _).getD d undef=_
  simp_all
 have s:(execOp a1.eval h).run P w=.ok (.defer D0) w:=by
  simp[execOp,i,resolve,Y,Deferred.ofValue,D0]
 refine wpIn_seq (wpIn_region_lit ?_);refine YO (Yo hg1 r) n ?_;simp only[F,Act.put];unfold wpL wpListIn;rw[Vk (Yo hg2 u)];refine⟨λ_ _=>trivial,?_⟩;have hs:(h.semAt (WF none).round a1.eval).run P w=.ok (.defer D0) w:=by
  have e:h.semAt (WF none).round a1.eval=execOp a1.eval h:=rfl;rw[e];exact s
 rw[hs];show wpL P none [j,h].toArray (Exit.then (Code.wpIn (WF none) 0 P c' (Qfl h0 fr m σ w N a.defers Q0 QD)) (Qfl h0 fr m σ w N a.defers Q0 QD)) [] (Act.put {a1 with defers:=D0::a.defers} h.dst undef) w;simp only[hd2,Act.put];refine wpListIn_nil ?_;refine Code.wpIn_mono ?_ (k none fr m σ _ w r2 Qav);rintro e a' w' ⟨x,t,H',G,σ',y,T,z2,z3,L,R,V⟩;refine .inr ⟨x,t,H',G,σ',y,H.length,f,caps,g,T,z2,z3,L,?_,O,?_,V⟩
 .have:=congrArg (List.take h0) R
  rwa [List.take_take,List.take_take,Xw O]at this
 .have q:=(belL.take Q p).mono (L.extTake R);exact belL.take Q q
end
def RetD(P:Program)(h0:Nat)(Q:A->Qc->Prop)(h1:Nat)(f:FuncId)(caps:List A):Qx
 |.normal,env,H=>∃env' H' fD id l,Le h1 env H env' H'/\P.funcs[f]?=some fD/\fD.body=some (.region id (l:List Oper).toArray false)/\(∀args w,(callFunc f args).run P w=.ok (.enter f args) w)/\Nat.ble caps.length fD.ntmps=true/\WO P h0 fD.ntmps l.toArray l (Qa4 0 caps) H' (YK P h0 fD λ_ H=>Q (.tup []) H)
 |_,_,_=>False
theorem RetD.mk{P:Program}{h0:Nat}{Q:A->Qc->Prop}{h1:Nat}{f:FuncId}{caps:List A}{env env':Env}{H H':Qc}{fD:Func}{id:Nat}{l:List Oper}(hle:Le h1 env H env' H')(hf:P.funcs[f]?=some fD)(hb:fD.body=some (.region id l.toArray false))(eg:∀args w,(callFunc f args).run P w=.ok (.enter f args) w)(hN:Nat.ble caps.length fD.ntmps=true)
  (h:WO P h0 fD.ntmps l.toArray l (Qa4 0 caps) H' (YK P h0 fD λ_ H=>Q (.tup []) H)):RetD P h0 Q h1 f caps .normal env H:=⟨env',H',fD,id,l,hle,hf,hb,eg,hN,h⟩
theorem Qf1{P:Program}{f:FuncId}{fn:Func}{c:Code}{N:Nat}{args:List A}{H:Qc}{Q:A->Qc->Prop}
  (hf:P.funcs[f]?=some fn)(hb:fn.body=some c)(hN:fn.ntmps=N)(hA:Nat.ble args.length N=true)(hR:fn.results= #[])
  (h:TCs P H.length N c (Qa4 0 args) H (YK P H.length fn Q) (RetD P H.length Q)):C P f args H Q:=by
 intro fr ro σ vals w hs hl;have av:=hl.length;have ax:args.length<=N:=by simp_all
 refine(callsIn_wide (n:=0)).1 (callsIn_of_wp_marks hf hb trivial (Code.wpIn_mono ?_ (h fr ro σ _ w ⟨hs,?_,?_,List.nodup_nil,λd m=>by cases m⟩ (λd m=>by cases m))))
 .rintro e T B hp;have u:∀{σ':Sig},σ'.take H.length=σ.take H.length->σ'=σ++σ'.drop H.length:=by
   intro σ' ht;have e1:σ'.take H.length=σ:=by rw[ht,Vt (by rw[hs.len];omega)]
   grind[List.take_append_drop]
  rcases hp with⟨x,Y,H1,ab,σ1,F,V,h2,h3,h4,h5,h6⟩|⟨x,Y,H1,ab,σ1,F,hh,g,O,a,V,h2,h3,h4,h5,h8,h7,h6⟩
  .have am:(∃k H' r,Le H.length Y H1 k H'/\Qa6 P fn k H' r/\Q r H')->LeavesInM Fence.wide 0 P fn T.tmps (λe B=>
     ∃v' r H' p τ,e=.returned v'/\Q r H'/\Sim fr p (σ++τ) H' B/\VR p (σ++τ) B r v'/\Qj fr ro w p B) T.defers .returning B:=by
    rintro⟨k,H',r,aa,hr,hq⟩;obtain⟨p,σ',y,z,ht⟩:=aa F ab σ1 N T B h3;have hσ:=u (ht.trans h5);have s1:Sim fr p σ' H' B:=y.sim.frMono h6.sub;refine YU (ro:=p) (fr:=fr) (σ:=σ') (H:=H') T.defers B y.defers.1 (λd m=>?_) s1 (λL s2 G=>?_)
    .obtain⟨D,rfl,q'⟩:=(h6.ds d m).resolve_left (by simp);obtain⟨J,W⟩:=y.defers.mark m;exact⟨D,rfl,λq=>y.sim.roFr D q J,λq=>(by have:=hs.frLt D q;omega),λi x q1 q2 q3=>(y.sim.own i D x q1 q2 q3).2.2 J,λi d x q1 q2 q3=>(y.sim.hid i d x D q1 q2 q3).fr J,W⟩
    .have ar:Rel fr p σ' H' k N {T with defers:=[]} L:=⟨s2,λs=>(y.env s).mono (by have:=G.ext σ' [];grind),y.size,List.nodup_nil,λd m=>by cases m⟩;obtain⟨v,e1,e2⟩:=hr fr p σ' N _ L ar;exact⟨v,e1,v,r,H',p,σ'.drop H.length,rfl,hq,hσ▸s2,hσ▸e2,(h4.trans (QR z)).trans G⟩
   cases e with
   |normal=>
    obtain rfl:x=.normal:=V;exact am h2
   |ret=>
    obtain rfl:x=.ret:=V;exact am h2
   |exit id=>
    obtain rfl:x=.exit id:=V;exact h2.elim
   |_=>exact V.elim
  .cases e with
   |normal=>
    obtain rfl:x=.normal:=V;obtain⟨k,H',fD,id,l,aa,gf,gb,eg,gN,hw⟩:=h2;obtain⟨t,σ2,r2,z,ht⟩:=aa F ab σ1 N T B h3;have au:LR t σ2 B O a:=by
     rw[<- ht]at h7;exact h7.mono ⟨z,λ_ _=>rfl,λ_ _ q=>q,λi b q=>by
      by_cases hi:i<hh
      .rw[List.getElem?_take_of_lt hi]at q;exact q
      .rw[XI (by simp;omega)]at q;cases q⟩
    have ao:σ2.take H.length=σ.take H.length:=by
     have:=congrArg (List.take H.length) ht;rw[List.take_take,List.take_take,Xw h8]at this;exact this.trans h5
    have ah:∀b,fr b->F b:=h6.sub;have ad:({target:=.fn (.func g) a.toArray,args:= #[]}:Deferred)∈T.defers:=h6.kd _ (by simp);have M:∀d∈T.defers,d={target:=.fn (.func g) a.toArray,args:= #[]}\/ ∃D,d={target:=.collected D,args:= #[]}/\w.heap.size<=D/\F D/\B.heap[D]?=some (.deferred (some [])):=λd m=>by
     rcases h6.ds d m with q|⟨D,rfl,q⟩
     .exact .inl (by simpa using q)
     .obtain⟨J,W⟩:=r2.defers.mark m;exact .inr ⟨D,rfl,q,J,W⟩
    have aj:=r2.defers.1;obtain⟨A1,B1,ae⟩:=List.append_of_mem ad;rw[ae]at aj M;show LeavesInM Fence.wide 0 P fn T.tmps _ T.defers .returning B;rw[ae];obtain⟨n1,n2,n3⟩:=List.nodup_append.1 aj;obtain⟨n4,n5⟩:=List.nodup_cons.1 n2
    let frA:Nat->Prop:=λb=>F b/\ ∀D,({target:=.collected D,args:= #[]}:Deferred)∈A1->b≠D
    have cond:∀{frX frY roX:Nat->Prop} {σX:Sig} {HX:Qc} {wX:World},Sim frX roX σX HX wX->∀D,frX D->¬frY D->wX.heap[D]?=some (.deferred (some []))->
      ∃D',({target:=.collected D,args:= #[]}:Deferred)={target:=.collected D',args:= #[]}/\ ¬roX D'/\ ¬frY D'/\(∀(i:Nat) (x:Blk),σX[i]?=some (some D')->HX[i]?=some x->x.live=true->False)/\(∀(i d:Nat) (x:Blk),σX[i]?=some (some d)->HX[i]?=some x->Hid wX x d D'->False)/\wX.heap[D']?=some (.deferred (some [])):=
     λs D J W g3=>⟨D,rfl,λq=>s.roFr D q J,W,λi x q1 q2 q3=>(s.own i D x q1 q2 q3).2.2 J,λi d x q1 q2 q3=>(s.hid i d x D q1 q2 q3).fr J,g3⟩
    refine Qcs (ro:=t) (fr:=frA) (σ:=σ2) (H:=H') A1 B n1 (λd m=>?_) (r2.sim.frMono λb q=>q.1) (λL s2 G=>?_)
    .rcases M d (List.mem_append_left _ m)with rfl|⟨D,rfl,g0,J,W⟩
     .exact absurd rfl (n3 _ m _ (by simp))
     .exact cond r2.sim D J (λq=>q.2 D m rfl) W
    have ag:Ext t σ2 B t σ2 L:=by have:=G.ext σ2 [];grind
    have X:=au.mono ag;have az:=X.length;have ay:O.length<=fD.ntmps:=XL gN;have rD:Rel frA t σ2 H' (Qa4 0 O) fD.ntmps {tmps:=a.toArray++Array.replicate (fD.ntmps-a.toArray.size) undef,defers:=[]} L:=by
     refine⟨s2,λs=>?_,?_,List.nodup_nil,λd m=>by cases m⟩
     .have:=Qbg (i:=0) [] rfl X (Array.replicate (fD.ntmps-a.toArray.size) undef) s
      grind
     .grind
    have ac:CallsDIn Fence.wide 0 P g a.toArray .returning L λe u' E=>u'=.returning/\ ∃v,e=.returned v/\ ∃H3 j σ3,Q (.tup []) H3/\Sim frA j σ3 H3 E/\Qj frA t L j E/\σ3.take H.length=σ2.take H.length:=by
     refine callsDIn_of_wp (R:=λe E=>∃v,e=.returned v/\ ∃H3 j σ3,Q (.tup []) H3/\Sim frA j σ3 H3 E/\Qj frA t L j E/\σ3.take H.length=σ2.take H.length) gf gb trivial (wpIn_region_lit (Q1 ?_ _ _ _ (hw none frA t σ2 _ L rD Qav)));rintro e a3 E ⟨x,an,H3,j,σ3,ak,z1,z2,z3,z4,z5,z6,z7⟩;have fin:(∃k H' r,Le H.length an H3 k H'/\Qa6 P fD k H' r/\Q (.tup []) H')->a3.defers=[]/\ ∃v,(results fD a3.tmps).run P E=.ok v E/\ ∃v',Ending.returned v=.returned v'/\ ∃H3 j σ3,Q (.tup []) H3/\Sim frA j σ3 H3 E/\Qj frA t L j E/\σ3.take H.length=σ2.take H.length:=by
      rintro⟨aw,H4,r4,y1,y2,y3⟩;obtain⟨al,σ4,af,y4,y5⟩:=y1 ak j σ3 _ a3 E z3;obtain⟨v,e1,e2⟩:=y2 ak al σ4 _ a3 E af;exact⟨z6,v,e1,v,rfl,H4,al,σ4,y3,af.sim.frMono z7.sub,z4.trans (QR y4),y5.trans z5⟩
     cases e with
     |normal=>
      obtain rfl:x=.normal:=z1;exact fin z2
     |ret=>
      obtain rfl:x=.ret:=z1;exact fin z2
     |exit id=>
      obtain rfl:x=.exit id:=z1;exact z2.elim
     |_=>exact z1.elim
    refine⟨(by simp),.inr ⟨(λh=>by simp[Fence.wide]at h),.func g,a.toArray,g,a.toArray,rfl,?_,λ_ _=>trivial,ac.mono ?_⟩⟩
    .have:=eg (#[]++a.toArray) L;simpa[invoke]using this
    rintro e u' E ⟨rfl,v,rfl,H3,j,σ3,y1,s3,ai,y4⟩;have hσ:=u (y4.trans ao);refine YU (ro:=j) (fr:=fr) (σ:=σ3) (H:=H3) B1 E n5 (λd m=>?_) (s3.frMono λb q=>⟨ah b q,λD hD e=>?_⟩) (λw4 s4 aq=>?_)
    .rcases M d (List.mem_append_right _ (XX _ m))with rfl|⟨D,rfl,g0,J,W⟩
     .exact absurd m n4
     .have gA:frA D:=⟨J,λD' hD' e=>by subst e;exact n3 _ hD' _ (XX _ m) rfl⟩;exact cond s3 D gA (λq=>by have:=hs.frLt D q;omega) ((ai.keepFr D gA).trans ((G.keepFr D gA).trans W))
    .rcases M _ (List.mem_append_left _ hD)with q'|⟨D',e',g0,_⟩
     .simp at q'
     .have:D=D':=by simpa using e'
      have:=hs.frLt b q;omega
    .have ev:Qj fr ro w j w4:=((h4.trans (QR z)).trans ((G.trans ai).frMono λb q=>⟨ah b q,λD hD e=>by
      rcases M _ (List.mem_append_left _ hD)with q'|⟨D',e',g0,_⟩
      .simp at q'
      .have:D=D':=by simpa using e'
       have:=hs.frLt b q;omega⟩)).trans aq
     exact⟨.tuple #[],by simp[results,hR],.tuple #[],.tup [],H3,j,σ3.drop H.length,rfl,y1,hσ▸s4,⟨[],rfl,rfl⟩,ev⟩
   |ret=>
    obtain rfl:x=.ret:=V;exact h2.elim
   |exit id=>
    obtain rfl:x=.exit id:=V;exact h2.elim
   |_=>exact V.elim
 .intro s;have:=Qbg (i:=0) [] rfl hl (Array.replicate (fn.ntmps-vals.toArray.size) undef) s
  grind
 grind
section
variable {P:Program} {o:Oper} {env:Env} {H:Qc} {h0 N:Nat} {Q:Qx}
theorem QfW{α:Type}{T E i k:Nat}{u:TypeId}{x:Operand}{l:List α}(y:P.underlying T=some (.slice E))(B:o.op=.binOp .eql T x (.const (.slice none 0 0)) u)(n:opA env x=.osl i 0 l.length k):
  OpE P o env H (λv H'=>∃b:Bool,v=.bool b/\(l≠[]->b=false)/\H'=H):=by
 intro s q σ N a w r;have f:=Ql r x;rw[n]at f;obtain⟨e,d,f,z⟩:∃e d,a.eval x=.slice e l.length d/\(l≠[]->e.isNone=false):=by
  rcases f with⟨h,g⟩|⟨b,p,d,t,m,_,g,_⟩
  .exact⟨none,0,by rw[g,h],λj=>absurd (List.eq_nil_of_length_eq_zero h) j⟩
  .exact⟨_,d,g,λ_=>rfl⟩
 refine⟨.bool e.isNone,H,.bool e.isNone,w,q,[],⟨e.isNone,rfl,λj=>?_,rfl⟩,?_,rfl,by simpa using r.sim,Qj.refl _ _ _⟩
 .grind
 .have F:a.eval (.const (.slice none 0 0))=.slice none 0 0:=rfl
  grind[eqGuard,execOp,Sem.run_bind,Result.andThen,Go.run_eql_slice_nil,Sem.run_pure]
theorem QgT{α:Type}{T E i k d:Nat}{u:TypeId}{x:Operand}{l:List α}{all:Array Oper}{L:List Oper}(f:P.underlying T=some (.slice E))(a:opA env x=.osl i 0 l.length k)
  (g:∀b,(l≠[]->b=false)->WO P h0 N all L (up env d (.bool b)) H Q)
  (e:o.op=.binOp .eql T x (.const (.slice none 0 0)) u:=by exact rfl)(hg:Qt all o env true:=by exact rfl)(hd:o.dst=some d:=by exact rfl)(hN:Nat.blt d N=true:=by exact rfl)(hh:Nat.ble h0 H.length=true:=by exact rfl):WO P h0 N all (o::L) env H Q:=by
 refine QfO (by simp_all) hg hd hN (QfW f e a) ?_
 grind
end
mutual
def roFree:A->Bool
 |.rp _=>false
 |.rsl _ _=>false
 |.agg cs=>QaA cs
 |.fn _ a c=>QaA a&&QaA c
 |.iface _ v=>roFree v
 |.tup vs=>QaA vs
 |_=>true
def QaA:List A->Bool
 |[]=>true
 |a::r=>roFree a&&QaA r
end
mutual
theorem VR.roFree{ro ro':Nat->Prop}{σ:Sig}{w:World}:∀{a:A} {v:Value},Go.Sw.roFree a=true->VR ro σ w a v->VR ro' σ w a v
 |.any,_,_,_=>trivial
 |.bool _,_,_,h=>h
 |.int _ _,_,_,h=>h
 |.str _,_,_,h=>h
 |.nilp,_,_,h=>h
 |.ptr _ _,_,_,h=>h
 |.rp _,_,hs,_=>by simp[Go.Sw.roFree]at hs
 |.nils,_,_,h=>h
 |.rsl _ _,_,hs,_=>by simp[Go.Sw.roFree]at hs
 |.osl _ _ _ _,_,_,h=>h
 |.agg cs,v,hs,h=>by
  simp only[VR,Go.Sw.roFree]at h hs⊢;obtain⟨l,h1,h2⟩:=h;exact⟨l,h1,LR.roFree hs h2⟩
 |.fn f a c,v,hs,h=>by
  simp only[VR,Go.Sw.roFree,XP]at h hs⊢;obtain⟨l,l',h1,h2,h3⟩:=h;exact⟨l,l',h1,LR.roFree hs.1 h2,LR.roFree hs.2 h3⟩
 |.nilf,_,_,h=>h
 |.iface t a,v,hs,h=>by
  simp only[VR,Go.Sw.roFree]at h hs⊢;obtain⟨x,h1,h2⟩:=h;exact⟨x,h1,VR.roFree hs h2⟩
 |.nilif,_,_,h=>h
 |.map _,_,_,h=>h
 |.nilm,_,_,h=>h
 |.tup vs,v,hs,h=>by
  simp only[VR,Go.Sw.roFree]at h hs⊢;obtain⟨l,h1,h2⟩:=h;exact⟨l,h1,LR.roFree hs h2⟩
theorem LR.roFree{ro ro':Nat->Prop}{σ:Sig}{w:World}:∀{cs:List A} {l:List Value},QaA cs=true->LR ro σ w cs l->LR ro' σ w cs l
 |[],_,_,h=>h
 |a::r,l,hs,h=>by
  simp only[LR,QaA,XP]at h hs⊢;obtain⟨v,l',h1,h2,h3⟩:=h;exact⟨v,l',h1,VR.roFree hs.1 h2,LR.roFree hs.2 h3⟩
end
inductive QgU:Blk->Blk->Prop
 |kc (t:Nat) (cs:List A) (h:QaA cs=true):QgU (.cells t cs) (.cells t cs)
 |mp (es:List (A×A)):QgU (.fmap es) (.map es)
inductive Qd2:Qc->Qc->Prop
 |nil:Qd2 [] []
 |cons {x y:Blk} {r s:Qc} (h:QgU x y) (k:Qd2 r s):Qd2 (x::r) (y::s)
theorem Qd2.len{a b:Qc}(h:Qd2 a b):a.length=b.length:=by induction h<;>simp_all
theorem Qd2.at{a b:Qc}(h:Qd2 a b):∀{i:Nat} {y:Blk},b[i]?=some y->∃x,a[i]?=some x/\QgU x y:=by
 induction h with
 |nil=>intro i y q;simp at q
 |cons h k d=>
  intro i y q;cases i with
  |zero=>exact⟨_,rfl,by simp at q;exact q▸h⟩
  |succ i=>simpa using d (by simpa using q)
theorem QgU.live{x y:Blk}(h:QgU x y):y.live=true:=by cases h<;>rfl
theorem QjO{β:Type}{P:Program}{f:FuncId}{args:List A}{Hf H:Qc}{Y:β->A}{r:β}(L:Qd2 Hf H)(hC:Csm P f args Hf Y r)(hs:QT (Y r)=true):Csm P f args H Y r:=by
 intro T R σ vals w s hl;have F:σ.length=Hf.length:=s.len.trans L.len.symm
 let lent:Nat->Prop:=λb=>∃(i:Nat) (B:List (A×A)),σ[i]?=some (some b)/\H[i]?=some (.map B)
 have a:∀b,lent b->b<w.heap.size/\ ¬R b/\ ¬T b:=λb ⟨i,B,d,g⟩=>s.own i b _ d g rfl
 let roF:Nat->Prop:=λb=>R b\/lent b
 have E:Ext R σ w roF σ w:=⟨λ_ q=>.inl q,λ_ _=>rfl,λ_ _ q=>q,λ_ _ q=>q⟩;have sF:Sim T roF σ Hf w:=by
  refine⟨F,s.roOk.to (λ_ q=>.inl q) (λ_ _=>rfl) (λb q=>q.elim (s.roLt b) λq=>(a b q).1),s.frLt,λb q=>q.elim (s.roFr b) λq=>(a b q).2.2,λi b x d g G=>?_,λi j b x y d g G h4 h5 h6=>?_,λi o x d g=>?_,λi b x c d g G=>?_⟩
  all_goals
   have O:∀{i:Nat} {x:Blk},Hf[i]?=some x->∃y,H[i]?=some y/\QgU x y:=λ{i x} q=>by
    have:i<H.length:=by rw[<- L.len];exact(XF.1 q).1
    obtain⟨x',k,m⟩:=L.at (XE this);rw[q]at k;cases k;exact⟨_,XE this,m⟩
  .obtain⟨y,k,m⟩:=O g;obtain⟨V,W,p3⟩:=s.own i b y d k m.live;refine⟨V,λq=>q.elim W ?_,p3⟩;rintro⟨j,B,z1,X⟩;have:=s.inj i j b _ _ d z1 k X m.live rfl;subst this;rw[k]at X;cases X;cases m;cases G
  .obtain⟨y1,k,m⟩:=O G;obtain⟨y2,q3,q4⟩:=O h4;exact s.inj i j b _ _ d g k q3 m.live q4.live
  .obtain⟨y,k,m⟩:=O g;have u:=s.blk i o y d k;cases m with
   |kc t cs h=>exact u.keep E (λ_ _ _=>rfl) (λ_ _ _ _=>rfl)
   |mp B=>
    cases o with
    |none=>exact u.elim
    |some b=>
     obtain⟨l,n,N,Q,M⟩:=u;exact⟨.inr ⟨i,B,d,k⟩,l,n,N,Q.mono ⟨λ_ q=>.inl q,λ_ _=>rfl,λ_ _ q=>q,λ_ _ q=>q⟩,M⟩
  .obtain⟨y,k,m⟩:=O g;cases m<;>exact G.elim
 refine Calls.mono (hC T roF σ vals w sF (hl.mono E)) ?_;rintro e w' ⟨v,r',H1,aa,τ,rfl,⟨rfl,rfl⟩,J,hv,ev⟩;have hτ:τ=[]:=by
  have:=J.len;rw[XV,F]at this;exact List.eq_nil_of_length_eq_zero (by omega)
 subst hτ;rw[X9]at J hv
 let ro2:Nat->Prop:=λb=>aa b/\ ¬lent b
 have p:∀b,R b->ro2 b:=λb q=>⟨ev.sub b (.inl q),λq'=>(a b q').2.1 q⟩;have ab:∀b,lent b->w'.heap[b]?=w.heap[b]? :=λb q=>ev.keepRo b (.inr q);refine⟨v,_,H,ro2,[],rfl,⟨rfl,rfl⟩,?_,?_,⟨p,λb q=>ev.keepRo b (.inl q),ev.keepFr,ev.size,ev.shape,ev.os,ev.tape,ev.output,ev.drawn⟩⟩
 .rw[X9];refine⟨s.len,s.roOk.to p (λb q=>ev.keepRo b (.inl q)) (λb q=>J.roLt b q.1),J.frLt,λb q=>J.roFr b q.1,λi b y d g G=>?_,s.inj,λi o y d g=>?_,λi b y c d g G=>?_⟩
  .obtain⟨x,k,m⟩:=L.at g;cases m with
   |kc t cs h=>
    obtain⟨V,W,p3⟩:=J.own i b _ d k rfl;exact⟨V,λq=>W q.1,p3⟩
   |mp B=>
    have q:lent b:=⟨i,B,d,g⟩;exact⟨X8 (a b q).1 ev.size,λz=>z.2 q,(a b q).2.2⟩
  .obtain⟨x,k,m⟩:=L.at g;cases m with
   |kc t cs h=>
    have u:=J.blk i o _ d k;cases o with
    |none=>exact u
    |some b=>
     obtain⟨l,N,Q,M⟩:=u;exact⟨l,N,Q.roFree h,M⟩
   |mp B=>
    have u:=s.blk i o _ d g;cases o with
    |none=>exact u
    |some b=>
     obtain⟨l,n,N,Q,M⟩:=u;exact⟨l,n,(ab b ⟨i,B,d,g⟩).trans N,Q.mono ⟨p,λb q=>ev.keepRo b (.inl q),ev.shape,λ_ _ q=>q⟩,M⟩
  .obtain⟨x,k,m⟩:=L.at g;cases m<;>exact G.elim
 .exact hv.scalar hs
theorem QaD{P:Program}{o:Oper}{env:Env}{H:Qc}{t E n j:Nat}{x y:Operand}{l:List A}{k:IntKind}{i:Int}{v:A}(f:(i==j)=true)(F:l[j]?=some v)(q:Nat.blt j n=true)(s:∀w,(underlying t).run P w=.ok (.array n E) w)(p:∀w,(isAgg E).run P w=.ok false w)(B:∀w,(Go.sizeOf E).run P w=.ok 1 w)
  (L:o.op=.index t x y:=by exact rfl)(hx:opA env x=.agg l:=by exact rfl)(hy:opA env y=.int k i:=by exact rfl):OpV P o env H v:=by
 intro Q R σ N a w r;have d:=Ql r x;rw[hx]at d;obtain⟨m,d,O⟩:=d;have J:=QG r hy;have e:i=(j:Int):=by simpa using f
 subst e;have g:(j:Int)<n:=by simpa using q
 have G:(0:Int)<=(j:Int):=by omega
 obtain⟨u,M,z⟩:=O.get _ F;refine⟨u,?_,z⟩;generalize a.eval=ρ at*;simp[L,d,J,Instr.index,s,G,g,B,p,M,go_sem];intro h;omega
abbrev Ea:=@Ev.bind
abbrev Ec:=@FzH.keep
abbrev Ed:=@FzL.cons
abbrev Ee:=@FzA.refl
abbrev Ef:=@PL.cons
abbrev Eg:=@DS.done
abbrev Eh:=@Ev.and
abbrev Ei:=@FzL.refl
abbrev Ej:=@OpH.lit
abbrev Ek:=@RF.c1
abbrev El:=@Le.trans
abbrev Em:=@ZR.int
abbrev En:=@FzA.o
abbrev Eo:=@Le.phantom
abbrev Ep:=@OpU.store
abbrev Er:=@OpV.load
theorem Zf.{u,v}{α:Sort u}{β:Sort v}{f:α->β}:∀x,f x=f x:=λ_=>rfl
abbrev Ze.{u,v}{α:Sort u}{β:Type v}:α->List β:=λ_=>[]
end Go.Sw
