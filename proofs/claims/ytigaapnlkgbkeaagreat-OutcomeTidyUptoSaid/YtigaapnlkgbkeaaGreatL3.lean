/- The rules by which the code is walked, with what they rest on (part 3). -/
import Derived.Test.YtigaapnlkgbkeaaGreatL2
import Derived.Shelf.Spec.SlicesInsertGrow
import Derived.RangeFuncLeaves
set_option linter.unusedVariables false
set_option linter.unusedSectionVars false
set_option linter.unusedSimpArgs false
namespace Go.Sw
def nxL{T:Type}:List T->T->List T->Prop:=λl x rem=>l=x::rem
def QhU{S T B:Type}(step:S->T->Option (Ctl S B)):List T->S->Option (Ctl S B)
 |[],s=>some (.cont s)
 |x::l,s=>(step s x).bind λd=>match d with
  |.cont s'=>QhU step l s'
  |.done b=>some (.done b)
def Qea{S T B:Type}(step:S->Option (List T×Ctl S B)):Nat->S->Option (List T×B)
 |0,_=>none
 |n+1,s=>(step s).bind λp=>match p.2 with
  |.cont s'=>(Qea step n s').bind λq=>some (p.1++q.1,q.2)
  |.done b=>some (p.1,b)
def Qf5{S B:Type}(h1:Nat)(env:Env)(Q:Qx)(d:Ctl S B)(Hp:S->Qc):Qx
 |.normal,env',H'=>∃s,d=.cont s/\Le h1 env' H' [] (Hp s)
 |.exit id,env',H'=>(∃b,d=.done b)/\ ∃H2,Le h1 env' H' [] H2/\Q (.exit id) env H2
 |.ret,env',H'=>(∃b,d=.done b)/\ ∃H2,Le h1 env' H' [] H2/\Q .ret env H2
theorem Qgp{S B:Type}{h1:Nat}{env env':Env}{H':Qc}{Q:Qx}{s:S}{d:Ctl S B}{Hp:S->Qc}(e:some (Ctl.cont s)=some d)(h:Le h1 env' H' [] (Hp s)):Qf5 h1 env Q d Hp .normal env' H':=⟨s,(Oi e).symm,h⟩
theorem Qgo{S B:Type}{h1:Nat}{env env':Env}{H' H2:Qc}{Q:Qx}{b:B}{d:Ctl S B}{Hp:S->Qc}(e:some (Ctl.done b)=some d)(h:Le h1 env' H' [] H2)(q:Q .ret env H2):Qf5 h1 env Q d Hp .ret env' H':=⟨⟨b,(Oi e).symm⟩,H2,h,q⟩
theorem Qek{P:Program}{h0 N:Nat}{m:Operand}{ps:List Nat}{assign body:Code}{env:Env}{H:Qc}{Q:Qx}{f:FuncId}{caps a:List A}{Hc:Qc}{T S B:Type}{enc:T->List A}{xs:List T}{step:S->T->Option (Ctl S B)}{y:S}{D:Ctl S B}
  (π:List Nat)(Hp:S->Qc)(h:QhU step xs y=some D)(k:Qhg P f a Hc enc nxL xs)(n:∀x,(enc x).length=ps.length)(R:∀args w,(callFunc f args).run P w=.ok (.enter f args) w)
  (V:Nat.ble h0 H.length=true)(hg:opA env m=.fn (.func f) [] caps)(hargs:caps=Qag (rho π H.length) a)(G:π.map (λp=>H[p]?)=(Hc.map (QM (rho π H.length))).map some)(hπ:π.Nodup)(t:(ps.all λp=>Nat.blt p N)=true)
  (g:Le H.length env (QcA H π) env (Hp y))
  (i:∀s x d,step s x=some d->(∀b,d=.done b->D=.done b)->TC P H.length N assign (QhG ps (enc x) env) (Hp s) λe env1 H1=>e=.normal/\TC P H.length N body env1 H1 (Qf5 H.length env Q d Hp))
  (j:∀s,D=.cont s->Q .normal env (Hp s)):TC P h0 N (.rangeFunc m ps.toArray assign body) env H Q:=by
 refine TC.rangeFunc π Hp (λs l=>QhU step l s=some D) y (by simp_all) hg hargs G hπ t R k n g h ?_ ?_
 .rintro s l x rem r rfl;obtain⟨d,L,r⟩:=Q5 r;refine(i s x d L ?_).mono ?_
  .grind
  .rintro e env1 H1 ⟨J,O⟩;refine⟨J,O.mono ?_⟩;intro M E H2 q;cases M with
   |normal=>
    obtain⟨z,rfl,g⟩:=q;exact⟨Hp z,g,z,r,rfl⟩
   |exit id=>
    obtain⟨_,H3,u,q⟩:=q;exact⟨H3,u,q⟩
   |ret=>
    obtain⟨_,H3,u,q⟩:=q;exact⟨H3,u,q⟩
 .intro s F;exact j s (Oi F).symm
section
variable {T:Type} {X:Ctx T} {P:Program} {h0 N:Nat} {c:Code} {env:Env} {H:Qc} {st:YSt T} {Q:Yn T}
def QdQ{S B:Type}(h0:Nat)(E:S->Env)(Hp:S->Qc)(d:Ctl S B)(rest:List T)(Q:Yn T):Yn T
 |.normal,env,H,st=>∃s,d=.cont s/\Le h0 env H (E s) (Hp s)/\st=.on rest
 |.exit id,env,H,st=>Q (.exit id) env H st
 |.ret,env,H,st=>Q .ret env H st
theorem Qhc{S B:Type}{step:S->Option (List T×Ctl S B)}{E:S->Env}{Hp:S->Qc}{m:Nat}{i:S}{l rem:List T}{b:B}(h:Qea step m i=some (l,b))(F:Le h0 env H (E i) (Hp i))
  (body:∀s zs d rest,step s=some (zs,d)->(∀b',d=.done b'->b'=b/\rest=rem)->TCy X P h0 N c (E s) (Hp s) (.on (zs++rest)) (QdQ h0 E Hp d rest Q)):TCy X P h0 N (.loop c) env H (.on (l++rem)) Q:=by
 refine Qhd (I:=λn env H r=>∃s f,Qea step n s=some (f,b)/\r=.on (f++rem)/\Le h0 env H (E s) (Hp s)) ?_ ⟨i,l,h,rfl,F⟩;rintro n env H r ⟨s,f,a,rfl,j⟩;cases n with
 |zero=>cases a
 |succ n=>
  obtain⟨⟨zs,d⟩,t,a⟩:=Q5 a;refine Qj7 j ?_;cases d with
  |cont z=>
   obtain⟨⟨u,G⟩,w,a⟩:=Q5 a;cases a;rw[Vc];refine(body s zs (.cont z) (u++rem) t (λb' e=>by cases e)).mono ?_;rintro x g H' k q;cases x with
   |normal=>
    obtain⟨y,e,p,rfl⟩:=q;cases e;exact⟨n,Xk n,_,_,w,rfl,p⟩
   |exit id=>exact q
   |ret=>exact q
  |done b'=>
   cases a;refine(body s _ (.done b) rem t (λb' e=>by cases e;exact⟨rfl,rfl⟩)).mono ?_;rintro x g H' k q;cases x with
   |normal=>obtain⟨y,e,_⟩:=q;cases e
   |exit id=>exact q
   |ret=>exact q
def kqY(X:Ctx T)(P:Program)(h0 N:Nat):List Kf->Yn T->Yn T
 |[],Q=>Q
 |.seq c::k,Q=>SeqY X P h0 N c (kqY X P h0 N k Q)
 |.blo id::k,Q=>BloY id (kqY X P h0 N k Q)
 |.unr c::k,Q=>λ_ _ _ _=>False
@[reducible] def HdY(X:Ctx T)(P:Program)(h0 N:Nat):Cf->List Kf->Env->Qc->YSt T->Yn T->Prop
 |.code c,k,env,H,st,Q=>TCy X P h0 N c env H st (kqY X P h0 N k Q)
 |.ops all l,k,env,H,st,Q=>WOy X P h0 N all l env H st (kqY X P h0 N k Q)
 |.out x,k,env,H,st,Q=>kqY X P h0 N k Q x env H st
def Qjx:Cf->List Kf->Bool
 |.code (.loop _),_=>false
 |.out _,.unr _::_=>false
 |_,_=>true
theorem QhJ{Tx:TyX}(j:QaN P Tx){c i:Cf}{k f:List Kf}{env a:Env}{H H':Qc}(h:Qd3 Tx h0 N c k env H=some (i,f,a,H'))(d:Qjx c k=true)(g:HdY X P h0 N i f a H' st Q):HdY X P h0 N c k env H st Q:=by
 unfold Qd3 at h;split at h
 .cases h;exact TCy.seq g
 .cases h;exact TCy.block g
 .cases d
 .cases h;exact TCy.skip g
 .cases h;exact TCy.ret g
 .cases h;exact TCy.exit g
 .cases h;exact TCy.region g
 .grind[TCy.cond,QE]
 .cases h;exact WOy.nil g
 .split at h
  .rename_i q;cases h;exact WOy.step (QhN j q (WO.nil ⟨rfl,g⟩))
  .cases h
 .cases h;exact g
 .cases h;exact g
 .cases h;exact g
 .cases h;exact g
 .split at h
  .rename_i q;have e:=XL q;show(bif Nat.beq _ _ then _ else _)
   grind
  .show(bif Nat.beq _ _ then _ else _)
   grind
 .cases h;exact g
 .cases d
 .cases d
 .cases d
 .cases h
def QgR(Tx:TyX)(h0 N:Nat):Nat->Cf->List Kf->Env->Qc->Option (Cf×List Kf×Env×Qc)
 |0,c,k,env,H=>some (c,k,env,H)
 |n+1,c,k,env,H=>match Qjx c k with
  |true=>(match Qd3 Tx h0 N c k env H with
   |some (c',k',env',H')=>QgR Tx h0 N n c' k' env' H'
   |none=>none)
  |false=>none
theorem QcS{Tx:TyX}(hT:QaN P Tx):∀(n:Nat) {c c':Cf} {k k':List Kf} {env env':Env} {H H':Qc},QgR Tx h0 N n c k env H=some (c',k',env',H')->HdY X P h0 N c' k' env' H' st Q->HdY X P h0 N c k env H st Q
 |0,c,c',k,k',env,env',H,H',h,g=>by cases h;exact g
 |n+1,c,c',k,k',env,env',H,H',h,g=>by
  unfold QgR at h;split at h
  .rename_i hn;split at h
   .rename_i e;exact QhJ hT e hn (QcS hT n h g)
   .cases h
  .cases h
theorem TCy.lf{k:List Kf}(h:TC P h0 N c env H (λx env H=>kqY X P h0 N k Q x env H st)):TCy X P h0 N c env H st (kqY X P h0 N k Q):=TCy.lift h
theorem WOy.y1{all:Array Oper}{o:Oper}{r:List Oper}{d:Nat}{x:T}{l:List T}{e:T->A}{y z:Operand}{i:Array TypeId}(hE:X.enc=λx=>[e x])(h:X.nx=nxL)(a:o.op=.call {callee:=.value y,args:= #[z],argTypes:=i})(j:opA env y=.fn (.yield X.l) [] [])(f:opA env z=e x)(g:Yd (e x)=true)
  (m:WOy X P h0 N all r (up env d (.bool true)) H (.on l) Q)(k:WOy X P h0 N all r (up env d (.bool false)) H (.off l) Q)(hg:Qs all o env true:=by exact rfl)(hd:o.dst=some d:=by exact rfl)(hNd:Nat.blt d N=true:=by exact rfl):WOy X P h0 N all (o::r) env H (.on (x::l)) Q:=by
 refine WOy.yield (by rw[h];rfl) hg hd hNd ?_ ?_
 .rw[hE];exact QhD a j f g
 grind
theorem Qip{all:Array Oper}{o:Oper}{r:List Oper}{d:Nat}{x:T}{l:List T}{e1 e2:T->A}{y i h:Operand}{m:Array TypeId}(hE:X.enc=λx=>[e1 x,e2 x])(k:X.nx=nxL)(j:o.op=.call {callee:=.value y,args:= #[i,h],argTypes:=m})(n:opA env y=.fn (.yield X.l) [] [])(e:opA env i=e1 x)(a:opA env h=e2 x)(g:Yd (e1 x)=true)(f:Yd (e2 x)=true)
  (q:WOy X P h0 N all r (up env d (.bool true)) H (.on l) Q)(p:WOy X P h0 N all r (up env d (.bool false)) H (.off l) Q)(hg:Qs all o env true:=by exact rfl)(hd:o.dst=some d:=by exact rfl)(hNd:Nat.blt d N=true:=by exact rfl):WOy X P h0 N all (o::r) env H (.on (x::l)) Q:=by
 refine WOy.yield (by rw[k];rfl) hg hd hNd ?_ ?_
 .rw[hE];exact QgO j n e a g f
 grind
end
def yl{T R:Type}(x:T)(k:Option (List T×R)):Option (List T×R):=k.bind λp=>some (x::p.1,p.2)
def ap{T B R:Type}(a:Option (List T×B))(k:B->Option (List T×R)):Option (List T×R):=a.bind λp=>(k p.2).bind λq=>some (p.1++q.1,q.2)
theorem Qjv{T R:Type}{x:T}{k:Option (List T×R)}{a:List T}{v:R}(h:yl x k=some (a,v)):∃zs,k=some (zs,v)/\a=x::zs:=by
 obtain⟨⟨zs,e⟩,f,d⟩:=Q5 h
 grind
theorem QjC{T B R:Type}{a:Option (List T×B)}{k:B->Option (List T×R)}{d:List T}{v:R}(h:ap a k=some (d,v)):∃y1 b y2,a=some (y1,b)/\k b=some (y2,v)/\d=y1++y2:=by
 obtain⟨⟨y1,b⟩,j,e⟩:=Q5 h;obtain⟨⟨y2,i⟩,g,f⟩:=Q5 e
 grind
section
variable {T:Type} {X:Ctx T} {P:Program} {h0 N:Nat} {c c':Code} {env:Env} {H:Qc} {st:YSt T} {Q:Yn T}
def QiP{β:Type}(h0:Nat)(b:β)(E':β->Env)(H':β->Qc)(rem:List T)(Q:Yn T):Yn T
 |.normal,env,H,st=>Le h0 env H (E' b) (H' b)/\st=.on rem
 |.exit id,env,H,st=>Q (.exit id) env H st
 |.ret,env,H,st=>Q .ret env H st
theorem Qfw{β:Type}{E':β->Env}{H':β->Qc}(b:β)(rem:List T)(sel keep:List Nat)(nE:β->Env)(nH:β->List (Nat×Blk))(_:∀b,QfZ sel keep (nE b) (nH b) env H=some (E' b,H' b))(h:TCy X P h0 N c env H st (QiP h0 b E' H' rem Q))(k:∀env H,Le h0 env H (E' b) (H' b)->Q .normal env H (.on rem)):TCy X P h0 N c env H st Q:=
 h.mono λx env' H' st' q=>by
  cases x with
  |normal=>obtain⟨q1,rfl⟩:=q;grind
  |exit id=>exact q
  |ret=>exact q
theorem QjB{β:Type}{b:β}{E':β->Env}{H':β->Qc}{rem:List T}(h:Le h0 env H (E' b) (H' b)):QiP h0 b E' H' rem Q .normal env H (.on rem):=⟨h,rfl⟩
theorem QjA{β:Type}{b:β}{E':β->Env}{H':β->Qc}{rem:List T}(h:Q .ret env H st):QiP h0 b E' H' rem Q .ret env H st:=h
theorem Qit{S B:Type}{step:S->Option (List T×Ctl S B)}{E':S->Env}{H':S->Qc}{m:Nat}{s0:S}{ys rem:List T}{b:B}(sel keep:List Nat)(nE:S->Env)(nH:S->List (Nat×Blk))(h:Qea step m s0=some (ys,b))(_:∀s,QfZ sel keep (nE s) (nH s) env H=some (E' s,H' s))(hI:Le h0 env H (E' s0) (H' s0))
  (body:∀s zs d rest,step s=some (zs,d)->(∀b',d=.done b'->b'=b/\rest=rem)->TCy X P h0 N c (E' s) (H' s) (.on (zs++rest)) (QdQ h0 E' H' d rest Q)):TCy X P h0 N (.loop c) env H (.on (ys++rem)) Q:=Qhc h hI body
theorem Qh1{S B:Type}{E':S->Env}{H':S->Qc}{s:S}{d:Ctl S B}{zs rest:List T}(e:some ([],Ctl.cont s)=some (zs,d))(h:Le h0 env H (E' s) (H' s)):QdQ h0 E' H' d rest Q .normal env H (.on (zs++rest)):=by
 cases e;exact⟨s,rfl,h,rfl⟩
theorem QhZ{S B:Type}{id:Nat}{E':S->Env}{H':S->Qc}{d:Ctl S B}{rest:List T}(h:Q (.exit id) env H st):QdQ h0 E' H' d rest Q (.exit id) env H st:=h
theorem Qh0{S B:Type}{E':S->Env}{H':S->Qc}{d:Ctl S B}{rest:List T}(h:Q .ret env H st):QdQ h0 E' H' d rest Q .ret env H st:=h
theorem Oy{S B:Type}{d:Ctl S B}{x b:B}{zs rest rem:List T}(a:∀b',d=.done b'->b'=b/\rest=rem)(h:some ([],Ctl.done x)=some (zs,d)):zs=[]/\b=x/\rest=rem:=by
 grind
theorem QcJ{f:FuncId}{fn:Func}{c:Code}{N:Nat}{caps:List A}{H:Qc}{enc:T->List A}{xs:List T}(a:P.funcs[f]?=some fn)(g:fn.body=some c)(e:fn.ntmps=N)(i:Nat.ble (caps.length+1) N=true)(d:fn.results= #[])
  (h:∀X,X.enc=enc->X.nx=nxL->TCy X P H.length N c (Qa5 0 (.fn (.yield X.l) [] []::caps)) H (.on (xs++[])) EndY):Qhg P f caps H enc nxL xs:=by
 grind[QeK]
end
open Go.MapKept
section
variable {fr ro:Nat->Prop} {σ:Sig} {H:Qc} {w:World}
end
end Go.Sw
namespace Go.Sw
open Go.MapKept
def QdW{α β:Type}(ek:α->A)(ev:β->List A)(l:List (α×Option (List β))):List (A×Option (List (List A))):=l.map λp=>(ek p.1,p.2.map (List.map ev))
def Qgr{α β:Type}[DecidableEq α](l:List (α×Option (List β)))(x:α):List (α×Option (List β)):=l.map λp=>bif decide (p.1=x)then(p.1,none)else p
section
variable {P:Program} {kt:TypeId} {α β:Type} [DecidableEq α] {ek:α->A} {ev:β->List A} {ro:Nat->Prop} {w:World} {t k:Nat} (K:YZ P kt ek)
include K
theorem QgI{x:α}:∀{l:List (α×Option (List β))} {es:List MapEntry},MO ro w t k (QdW ek ev l) es->MO ro w t k (QdW ek ev (Qgr l x)) es
 |[],es,h=>h
 |p::l,es,h=>by
  obtain⟨e,l',rfl,h1,h2,h3⟩:=h;by_cases q:p.1=x
  .refine⟨e,l',rfl,by grind,λrows hr=>?_,QgI h3⟩
   grind
  .refine⟨e,l',rfl,by grind,(by grind),QgI h3⟩
omit K
theorem Qcs{x:α}{c:Nat}:∀{l:List (α×Option (List β))} {es:List MapEntry},QeT (QdW ek ev (Qgr l x)) es c->QeT (QdW ek ev l) es c
 |[],es,h=>by cases es<;>exact h.elim
 |p::l,[],h=>h.elim
 |p::l,e::es,h=>by
  rcases h with⟨h1,h2⟩|h
  .by_cases q:p.1=x
   .grind
   .exact .inl ⟨by grind,h2⟩
  .exact .inr (Qcs h)
theorem Qhx{x:α}:∀{l:List (α×Option (List β))} {es:List MapEntry},QiE (QdW ek ev l) es->QiE (QdW ek ev (Qgr l x)) es
 |[],es,h=>by cases es<;>trivial
 |p::l,[],h=>trivial
 |p::l,e::es,h=>by
  obtain⟨h1,h2⟩:=h;refine⟨λc q1 q2 q3=>?_,Qhx h2⟩;by_cases q:p.1=x
  .grind
  .exact h1 c (by grind) q2 (Qcs q3)
include K
theorem MO.find:∀{l:List (α×Option (List β))} {es:List MapEntry},MO ro w t k (QdW ek ev l) es->∀(x:α),(es.map (·.key)).Nodup->
  ((∀e:MapEntry,e∈es->e.key≠QJ (ek x))->Qcf l x=none)/\
  (∀(j:Nat) (e:MapEntry),es[j]?=some e->e.key=QJ (ek x)->∃q,Qcf l x=some q/\(∀rows,q=some rows->SO ro w t k (rows.map ev) e.val)/\
   ∀c p n cap,q.isSome=true->e.val=.slice (some ⟨c,p,none⟩) n cap->QeT (QdW ek ev l) es c/\(QiE (QdW ek ev l) es->¬QeT (QdW ek ev (Qgr l x)) es c))
 |[],es,h,x,_=>by
  cases(show es=[]from h);exact⟨λ_=>rfl,(by simp)⟩
 |p::l,es,h,x,hn=>by
  obtain⟨e0,l',rfl,h1,h2,h3⟩:=h;have hk:=VR.val (K.scl _) h1;simp only[Vd,List.nodup_cons]at hn;obtain⟨a1,a2⟩:=MO.find (l:=l) h3 x hn.2;by_cases hp:p.1=x
  .subst hp;constructor
   .grind
   .intro j e he hx;cases j with
    |zero=>
     simp only[Xz,Option.some.injEq]at he;subst he;refine⟨p.2,by simp[Qcf],(by grind),λc p' n cap hs hv=>⟨.inl (by grind),λhd hq=>?_⟩⟩;rcases hq with⟨q1,_⟩|hq
     .simp at q1
     .exact hd.1 c (by grind) ⟨p',n,cap,hv⟩ (Qcs (l:=l) hq)
    |succ j=>
     grind
  .have e1:Qcf (p::l) x=Qcf l x:=by simp[Qcf,hp]
   rw[e1];constructor
   .grind
   .intro j e he hx;cases j with
    |zero=>
     simp only[Xz,Option.some.injEq]at he;subst he;exact absurd (K.inj _ _ (hk.symm.trans hx)) hp
    |succ j=>
     obtain⟨q,d,m,g⟩:=a2 j e (by grind) hx;refine⟨q,d,m,λc p' n cap hs hv=>?_⟩;obtain⟨a,f⟩:=g c p' n cap hs hv;refine⟨.inr a,λhd hq=>?_⟩;rcases hq with⟨q1,i⟩|hq
     .exact hd.1 c (by grind) i a
     .exact f hd.2 hq
end
section
variable {P:Program} {o:Oper} {env:Env} {H:Qc}
variable {T kt et:Nat} {α β:Type} [DecidableEq α] {ek:α->A} {ev:β->List A} {x y:Operand} {i t k:Nat} {l:List (α×Option (List β))} {key:α} {rows:List β}
end
end Go.Sw
namespace Go.Sw
open Go.MapKept
theorem MO.append{ro:Nat->Prop}{w:World}{t k:Nat}:∀{l m:List (A×Option (List (List A)))} {es fs:List MapEntry},MO ro w t k l es->MO ro w t k m fs->MO ro w t k (l++m) (es++fs)
 |[],m,es,fs,h,q=>by cases(show es=[]from h);exact q
 |p::l,m,es,fs,h,q=>by
  obtain⟨e,l',rfl,h1,h2,h3⟩:=h;exact⟨e,l'++fs,rfl,h1,h2,MO.append h3 q⟩
theorem MO.length{ro:Nat->Prop}{w:World}{t k:Nat}:∀{l:List (A×Option (List (List A)))} {es:List MapEntry},MO ro w t k l es->es.length=l.length
 |[],es,h=>by cases(show es=[]from h);rfl
 |p::l,es,h=>by
  obtain⟨e,l',rfl,h1,h2,h3⟩:=h;simp[MO.length h3]
section
variable {P:Program} {kt:TypeId} {α β:Type} [DecidableEq α] {ek:α->A} {ev:β->List A} {ro:Nat->Prop} {w:World} {t k:Nat} (K:YZ P kt ek)
end
section
variable {P:Program} {o:Oper} {env:Env} {H:Qc}
variable {T kt et:Nat} {α β:Type} [DecidableEq α] {ek:α->A} {ev:β->List A} {x y zz:Operand} {i j t k n:Nat} {l m:List (α×Option (List β))} {key:α} {rows:List β}
end
end Go.Sw
namespace Go.Sw
open Go.MapKept
section
variable {fr ro:Nat->Prop} {σ:Sig} {H:Qc} {w:World}
end
section
variable {P:Program} {o:Oper} {env:Env} {H:Qc} {T kt et i t k:Nat} {x:Operand} {es:List (A×Option (List (List A)))}
end
section
variable {P:Program} {o:Oper} {env:Env} {H:Qc}
variable {T kt et:Nat} {α β:Type} [DecidableEq α] {ek:α->A} {ev:β->List A} {x y zz:Operand} {i j t k n:Nat} {l m:List (α×Option (List β))} {key:α} {rows:List β}
end
end Go.Sw
namespace Go.Sw
open Go.MapKept
section
variable {P:Program} {o:Oper} {env:Env} {H:Qc}
variable {T kt et:Nat} {α β:Type} [DecidableEq α] {ek:α->A} {ev:β->List A} {x y zz:Operand} {i j t k n:Nat} {l m:List (α×Option (List β))} {key:α} {rows:List β}
end
end Go.Sw
namespace Go.Sw
theorem QbQ{h0 d:Nat}{x y:A}{e:Env}{H:Qc}:Le h0 ((d,x)::(d,y)::e) H ((d,x)::e) H:=Le.env λs=>.inr (by
 simp[lk]
 grind)
abbrev Kat:=List (Nat×Nat×Nat)
def QhF:Nat->Nat->List (Nat×Nat)
 |lo,0=>[(lo,lo)]
 |lo,n+1=>(lo,lo)::QhF (lo+1) n
def rgK(p:Nat×Nat×Nat):List (Nat×Nat):=bif Nat.beq p.1 1 then[(p.2.1,p.2.1+1)]else QhF p.2.1 (p.2.2-p.2.1)
def plK(cat:Kat):List (List (Nat×Nat)):=cat.map rgK
def rqK(bs:List Nat)(cat:Kat):List (List Nat):=cat.map λp=>bs.take p.2.1
def hsK(cat:Kat):List Bool:=cat.map λp=>Nat.beq p.1 1
def msK(bs:List Nat):List (List Nat):=(List.range (bs.length+1)).map bs.take
theorem Qep:∀(n lo:Nat),∀p∈QhF lo n,p.1=p.2
 |0,lo,p,h=>by cases h with|head=>rfl|tail _ h=>cases h
 |n+1,lo,p,h=>by
  rcases X0.1 h with rfl|h
  .rfl
  .exact Qep n _ p h
section
variable {P:Program} {T:TyX} {h0 N m:Nat} {bs:List Nat} {cat:Kat} {l:List Oper} {ds:List Nat} {env:Env} {H:Qc} {Hs:List Qc} {Q:Qx} {K:List Oper->Env->Qc->Prop}
def DobK(P:Program)(N:Nat)(cat:Kat)(l:List Oper)(ds:List Nat)(env:Env)(n:Nat)(Hs:List Qc)(zs:List A)(j:Nat):Prop:=
 ∀p∈(plK cat).getD j [],YS P N l ds zs env n n j (Hs.getD p.1 []) (Hs.getD p.2 [])
def DK(P:Program)(N m:Nat)(bs:List Nat)(cat:Kat)(l:List Oper)(ds:List Nat)(env:Env)(n:Nat)(K:List Oper->Env->Qc->Prop)(Hs:List Qc)(X:Qc)(r:List Oper)(xs:List A):Prop:=
 r=l.drop xs.length->∃ys Zs Y,xs.length+ys.length=m/\Hs.length+Zs.length=bs.length/\((∀Z∈Zs,n<=Z.length)/\(Hs.reverse++X::Zs).getD bs.length []=Y)/\(∀j,xs.length<=j->j<m->DobK P N cat l ds env n (Hs.reverse++X::Zs) (xs++ys) j)/\K (l.drop m) (Qam ds (xs++ys) env) Y
theorem Qkb{f:List A}{n:Nat}{Zs:List Qc}(d:cat.length=m)(h:∀j,0<=j->j<m->DobK P N cat l ds env n Zs f j):QeS P N l ds f env n (n+0) 0 ((plK cat).map λq=>q.map λp=>(Zs.getD p.1 [],Zs.getD p.2 [])):=by
 refine QeR _ 0 λi s a p k=>?_;rw[Xl]at a;cases e:(plK cat)[i]? with
 |none=>grind
 |some q=>
  rw[e]at a;cases a;obtain⟨r,t,rfl⟩:=Xe.1 k;have g:i<m:=by
   grind[plK]
  have:=h i (XP _) g r (by grind)
  grind
theorem QiN{id:Nat}(m:Nat)(d:List Nat)(cat:Kat)(p:P.follows .mixedOrders=true)(q:QcG l m N (QaJ m 0 l) (hsK cat) (rqK d cat) (msK d) (plK cat)=true)(f:Nat.beq cat.length m=true)(g:Nat.ble h0 H.length=true)
  (h:DK P N m d cat l (QaJ m 0 l) env H.length (λr e H=>WO P h0 N l.toArray r e H Q) [] H l []):TC P h0 N (.region id l.toArray true) env H Q:=by
 obtain⟨k,Zs,Y,t,u,s,n,j⟩:=h rfl;have a:=XL f;have i:(msK d).length=d.length+1:=by simp[msK]
 refine QG m 0 _ _ _ _ _ k (H::Zs) Y p q (by grind) (by simp_all) g ?_ (by simp) (by grind) (Qkb a n) (by simp[plK,a]) j
 simp_all
variable {n:Nat} {X X1:Qc} {xs:List A} {o:Oper} {r:List Oper} {x:A} {d:Nat}
theorem DK.done(a:Nat.beq xs.length m=true)(d:Nat.beq Hs.length bs.length=true)(h:K r (Qam ds xs env) X):DK P N m bs cat l ds env n K Hs X r xs:=by
 intro f;have e:=XL a;have i:=XL d;refine⟨[],[],X,by simpa using e,by omega,⟨(λZ hZ=>by cases hZ),?_⟩,λj k g=>by omega,?_⟩
 .grind
 grind
theorem DK.add(s:∀ys Zs,l[xs.length]?=some o->DobK P N cat l ds env n (Hs.reverse++X::Zs) (xs++x::ys) xs.length)(k:DK P N m bs cat l ds env n K Hs X r (xs++[x])):DK P N m bs cat l ds env n K Hs X (o::r) xs:=by
 intro f;obtain⟨p,g⟩:=QaK f;obtain⟨ys,Zs,Y,h,i,e,d,a⟩:=k (by grind);simp[Vc,Vb]at h d a;refine⟨x::ys,Zs,Y,by grind,i,e,λj q t=>?_,a⟩
 grind
theorem Qc5{Zs:List Qc}{zs:List A}{j:Nat}{c:Nat×Nat×Nat}(a:Yw cat j=some c)(h:∀p∈rgK c,YS P N l ds zs env n n j (Zs.getD p.1 []) (Zs.getD p.2 [])):DobK P N cat l ds env n Zs zs j:=by
 intro p d
 grind[Qat,plK]
theorem Qi5{Zs:List Qc}{c:Nat}(a:Nat.beq c Hs.length=true):(Hs.reverse++X::Zs).getD c []=X:=by
 simp_all
theorem DK.wo{c:Nat}(h:WO P X.length N l.toArray [o] (QY (Qj o) 0 ds xs env) X (YC (up (QY (Qj o) 0 ds xs env) d x) X))(k:DK P N m bs cat l ds env n K Hs X r (xs++[x]))
  (e:Yw cat xs.length=some (0,c,c):=by exact rfl)(hd:o.dst=some d:=by exact rfl)(hcH:Nat.beq c Hs.length=true:=by exact rfl):DK P N m bs cat l ds env n K Hs X (o::r) xs:=
 .add (λys Zs ho=>Qc5 e λp a=>by
  have:=by
   change p∈QhF c (c-c)at a;rw[Nat.sub_self]at a;exact Vq.1 a
  grind[Qi5,Qas,YI]) k
theorem DK.wa{lo hi:Nat}(h:∀X,WO P X.length N l.toArray [o] (QY (Qj o) 0 ds xs env) X (YC (up (QY (Qj o) 0 ds xs env) d x) X))(k:DK P N m bs cat l ds env n K Hs X r (xs++[x]))
  (a:Yw cat xs.length=some (0,lo,hi):=by exact rfl)(hd:o.dst=some d:=by exact rfl):DK P N m bs cat l ds env n K Hs X (o::r) xs:=
 .add (λys Zs ho=>Qc5 a λp f=>by
  have e:=Qep _ _ p f
  grind[Qas,YI]) k
theorem DK.op{c t:Nat}(h:WO P X.length N l.toArray [o] (QY (Qj o) 0 ds xs env) X (YC (up (QY (Qj o) 0 ds xs env) d x) X1))(k:DK P N m bs cat l ds env n K (X::Hs) X1 r (xs++[x]))(E:Nat.ble n X1.length=true:=by exact rfl)
  (hc:Yw cat xs.length=some (1,c,t):=by exact rfl)(hd:o.dst=some d:=by exact rfl)(hcH:Nat.beq c Hs.length=true:=by exact rfl):DK P N m bs cat l ds env n K Hs X (o::r) xs:=by
 intro u;obtain⟨B,w⟩:=QaK u;obtain⟨i,Zs,Y,y,z,e,g,a⟩:=k (by grind);simp only[XX,XV,List.length_nil,Vc,Vz,Vb,List.reverse_cons]at y z e g a;refine⟨x::i,X1::Zs,Y,by grind,by grind,⟨λZ f=>?_,e.2⟩,λj F G=>?_,a⟩
 .rcases X0.1 f with rfl|f
  .simp_all
  grind
 .rcases Vr xs.length j with q|q
  .grind
  .obtain rfl:j=xs.length:=by omega
   refine Qc5 hc λp s=>?_;have:p=(c,c+1):=Vq.1 s
   grind[Nat.eq_of_beq_eq_true,Qas,YI]
def Qdf(T:TyX)(N m:Nat)(cat:Kat)(l:List Oper)(ds:List Nat)(env:Env)(n:Nat):Nat->Nat->Nat->List Qc->Qc->List Oper->List A->Option (List Qc×List Oper×List A)
 |0,_,_,Hs,X,r,xs=>some (Hs,r,xs)
 |_+1,_,_,_,_,[],_=>none
 |k+1,i,j,Hs,X,o::r,xs=>match o.dst with
  |none=>none
  |some d=>match Nat.blt d N with
   |false=>none
   |true=>match Yy ⟨l⟩ o (QY (Qj o) 0 ds xs env)with
    |none=>none
    |some false=>(match Qb2 xs (.tup [])with
      |.mk xs'=>match Yw cat i with
       |some (0,_,_)=>Qdf T N m cat l ds env n k (i+1) j Hs X r xs'
       |some (1,c,_)=>(match Nat.beq c j,Nat.ble n X.length with
        |true,true=>Qdf T N m cat l ds env n k (i+1) (j+1) (X::Hs) X r xs'
        |_,_=>none)
       |_=>none)
    |some true=>match Yw cat i with
     |some (0,lo,hi)=>(match Qca T o (QY (Qj o) 0 ds xs env) []with
      |some x=>(match Qb2 xs x with
       |.mk xs'=>Qdf T N m cat l ds env n k (i+1) j Hs X r xs')
      |none=>match Nat.beq lo hi,Nat.beq lo j with
       |true,true=>(match Qca T o (QY (Qj o) 0 ds xs env) X with
        |none=>none
        |some x=>match Qb2 xs x with
         |.mk xs'=>Qdf T N m cat l ds env n k (i+1) j Hs X r xs')
       |_,_=>none)
     |_=>none
theorem Qbe(hT:QaN P T):∀(k i j:Nat) {Hs Hs':List Qc} {r r':List Oper} {xs xs':List A},i=xs.length->j=Hs.length->Qdf T N m cat l ds env n k i j Hs X r xs=some (Hs',r',xs')->DK P N m bs cat l ds env n K Hs' X r' xs'->DK P N m bs cat l ds env n K Hs X r xs
 |0,i,j,Hs,Hs',r,r',xs,xs',_,_,h,k=>by cases h;exact k
 |k0+1,i,j,Hs,Hs',[],r',xs,xs',_,_,h,k=>by cases h
 |k0+1,i,j,Hs,Hs',o::r,r',xs,xs',hi,hj,h,k=>by
  subst hi hj;unfold Qdf at h;split at h
  .cases h
  .rename_i d hd;split at h
   .cases h
   .rename_i q2;split at h
    .cases h
    .rename_i hw;simp[YL]at h;split at h
     .rename_i lo hi' q0;exact .wa (λX=>WO.skip (QF hw) hd q2 (WO.nil YC.mk)) (Qbe hT k0 _ _ (by simp) rfl h k) q0 hd
     .rename_i c c' q0;split at h
      .rename_i q1 q3;exact .op (WO.skip (QF hw) hd q2 (WO.nil YC.mk)) (Qbe hT k0 _ _ (by simp) (by simp) h k) q3 q0 hd q1
      .cases h
     .cases h
    .rename_i hw;split at h
     .rename_i lo hi' q0;split at h
      .rename_i x hv;simp[YL]at h;exact .wa (λX=>Yr (QF hw) hd q2 (Qao hT (Qc7 hv)) (WO.nil YC.mk)) (Qbe hT k0 _ _ (by simp) rfl h k) q0 hd
      .split at h
       .rename_i q1 q3;split at h
        .cases h
        .rename_i x hv;simp[YL]at h;obtain rfl:=XL q1;exact .wo (Yr (QF hw) hd q2 (Qao hT hv) (WO.nil YC.mk)) (Qbe hT k0 _ _ (by simp) rfl h k) q0 hd q3
       .cases h
     .cases h
theorem Qb8{α:Type}{b:Bool}{p q:Option α}{v:α}{a d:List A}(j:Nat)(h:(bif b then p else q)=some v)(i:Yw xs j=some (.bool b))(g:QfM xs j (.bool true)=.mk a)(f:QfM xs j (.bool false)=.mk d)
  (t:b=true->p=some v->DK P N m bs cat l ds env n K Hs X r a)(e:b=false->q=some v->DK P N m bs cat l ds env n K Hs X r d):DK P N m bs cat l ds env n K Hs X r xs:=by
 cases b with
 |true=>simp_all[QaG]
 |false=>simp_all[QaG]
theorem DK.v(h:OpV P o (QY (Qj o) 0 ds xs env) X x)(k:DK P N m bs cat l ds env n K Hs X r (xs++[x])){c:Nat}(hg:Yy ⟨l⟩ o (QY (Qj o) 0 ds xs env)=some true:=by exact rfl)
  (hd:o.dst=some d:=by exact rfl)(hN:Nat.blt d N=true:=by exact rfl)(hc:Yw cat xs.length=some (0,c,c):=by exact rfl)(hcH:Nat.beq c Hs.length=true:=by exact rfl):DK P N m bs cat l ds env n K Hs X (o::r) xs:=
 .wo (Yr (QF hg) hd hN h (WO.nil YC.mk)) k hc hd hcH
def allV(T:TyX)(o:Oper)(e:Env)(x:A):Nat->List Qc->Prop
 |0,_=>True
 |k+1,Y::r=>Qca T o e Y=some x/\allV T o e x k r
 |_+1,[]=>False
theorem Qgi:∀(n lo:Nat),∀p∈QhF lo n,lo<=p.1/\p.1<=lo+n
 |0,lo,p,h=>by cases h with|head=>omega|tail _ h=>cases h
 |n+1,lo,p,h=>by
  rcases X0.1 h with rfl|h
  .omega
  .have:=Qgi n _ p h;omega
def allW(P:Program)(N:Nat)(l:List Oper)(o:Oper)(e:Env)(d:Nat)(x:A):Nat->List Qc->Prop
 |0,_=>True
 |k+1,Y::r=>WO P Y.length N l.toArray [o] e Y (YC (up e d x) Y)/\allW P N l o e d x k r
 |_+1,[]=>False
theorem QgD{e:Env}:∀{k:Nat} {r:List Qc},allW P N l o e d x k r->∀j,j<k->WO P (r.getD j []).length N l.toArray [o] e (r.getD j []) (YC (up e d x) (r.getD j []))
 |0,_,_,j,hj=>(by omega)
 |k+1,[],h,_,_=>h.elim
 |k+1,Y::r,h,0,_=>h.1
 |k+1,Y::r,h,j+1,hj=>by
  have:=QgD h.2 j (by omega)
  grind
theorem QdU{lo hi:Nat}(h:allW P N l o (QY (Qj o) 0 ds xs env) d x (hi+1-lo) (X::Hs))(k:DK P N m bs cat l ds env n K Hs X r (xs++[x]))
  (i:Yw cat xs.length=some (0,lo,hi):=by exact rfl)(hd:o.dst=some d:=by exact rfl)(hcH:Nat.beq hi Hs.length=true:=by exact rfl)(hle:Nat.ble lo hi=true:=by exact rfl):DK P N m bs cat l ds env n K Hs X (o::r) xs:=
 .add (λys Zs ho=>Qc5 i λp a=>by
  have e:=Qep _ _ p a;have f:=XM hle;have hb:=Qgi (hi-lo) lo p a;have j:=XL hcH;rw[<- e];have g:=QgD h (Hs.length-p.1) (by omega);have q:(Hs.reverse++X::Zs).getD p.1 []=(X::Hs).getD (Hs.length-p.1) []:=by
   grind
  rw[q];exact Qas ho YI g hd) k
theorem DK.vs(g:QaN P T){lo hi:Nat}(h:allV T o (QY (Qj o) 0 ds xs env) x (hi+1-lo) (X::Hs))(k:DK P N m bs cat l ds env n K Hs X r (xs++[x]))
  (i:Yw cat xs.length=some (0,lo,hi))(f:o.dst=some d)(e:Nat.beq hi Hs.length=true)(hg:Yy ⟨l⟩ o (QY (Qj o) 0 ds xs env)=some true)(p:Nat.blt d N=true)(a:Nat.ble lo hi=true):DK P N m bs cat l ds env n K Hs X (o::r) xs:=by
 refine QdU ?_ k i f e a;generalize hi+1-lo=c at h;generalize X::Hs=L at h
 induction c generalizing L with
 |zero=>trivial
 |succ c j=>
  cases L with
  |nil=>exact h.elim
  |cons Y L=>exact⟨Yr (QF hg) f p (Qao g h.1) (WO.nil YC.mk),j L h.2⟩
end
def room(n:Int):Option Nat:=bif decide (0<n)&&decide (n<=4294967296)then some n.toNat else none
section
variable {P:Program} {o:Oper} {env:Env} {H:Qc}
theorem Qcr{a i:Nat}{x x':Blk}(d:H[i]?=some x)(e:x=x'):Le a env H env (H.set i x'):=by
 grind[List.set_getElem_self,Le.refl]
theorem RL.put{ro:Nat->Prop}{σ:Sig}{w:World}{k:Nat}:∀{a:Nat} {es fs:List (List A)} {l m:List Value},RL ro σ w k es l->a+fs.length<=es.length->Sw.allK k fs->LR ro σ w fs.flatten m->(∀v∈m,Qu v)->
  RL ro σ w k (es.take a++fs++es.drop (a+fs.length)) (Sw.splice l (a*k) m)
 |0,es,[],l,m,h,hn,hk,hm,hp=>by
  obtain rfl:m=[]:=hm;simpa[Sw.splice]using h
 |0,[],f::fs,l,m,h,hn,hk,hm,hp=>by simp at hn
 |0,c::es,f::fs,l,m,⟨l1,l2,h1,h2,h3,h4⟩,hn,hk,hm,hp=>by
  subst h1;have hl1:=h3.1.length;have hml:=hm.length;rw[Vf,XX]at hml;have e1:m.take k++m.drop k=m:=Xv _ _;have q1:LR ro σ w f (m.take k):=by have:=hm.take k;rwa [Vf,X2 (by rw[hk.1];omega),Vx (by rw[hk.1];omega)]at this
  have q2:=by have:=hm.drop k;rwa [Vf,X3 (by rw[hk.1];omega),List.drop_of_length_le (by rw[hk.1];omega),Vb]at this
  have e:=RL.put (a:=0) h4 (by grind) hk.2 q2 (λv d=>hp v (List.mem_of_mem_drop d));simp only[List.take_zero,Vb,Xs,Nat.zero_mul,Sw.splice]at e⊢;refine⟨m.take k,m.drop k++l2.drop (m.drop k).length,?_,hk.1,⟨q1,λv d=>hp v (List.mem_of_mem_take d)⟩,by simp_all⟩;have i:k<=m.length:=by rw[hml,hk.1];omega
  rw[<- Vc,e1];congr 1
  grind[List.drop_length_add_append]
 |a+1,[],fs,l,m,h,hn,hk,hm,hp=>by simp at hn
 |a+1,c::es,fs,l,m,⟨l1,l2,h1,h2,h3,h4⟩,hn,hk,hm,hp=>by
  subst h1;have hl1:=h3.1.length;have e:=RL.put (a:=a) h4 (by simp at hn;omega) hk hm hp;refine⟨l1,Sw.splice l2 (a*k) m,?_,h2,h3,?_⟩
  .have e1:(a+1)*k=l1.length+a*k:=by rw[Xj];omega
   unfold Sw.splice;rw[e1,X6,show l1.length+a*k+m.length=l1.length+(a*k+m.length)from by omega,X5];simp
  .have g:a+1+fs.length=(a+fs.length)+1:=by omega
   simpa[g]using e
def Qhf(P:Program)(H:Qc)(x:A)(k:Nat)(es:List (List A)):Prop:=
 ∀fr ro σ w v,Sim fr ro σ H w->VR ro σ w x v->(∃a c,v=.slice a es.length c)/\
  ∀j,j<=es.length->allK k (es.take j)/\ ∃l,(Builtin.firstCells k j v).run P w=.ok l.toArray w/\LR ro [] w (es.take j).flatten l/\ ∀v∈l,Qu v
theorem Qdd{fr ro:Nat->Prop}{σ:Sig}{w:World}{k j b a n c:Nat}{es:List (List A)}(h:RR ro [] w b k es a)(g:j<=es.length):
  allK k (es.take j)/\ ∃l,(Builtin.firstCells k j (.slice (some ⟨b,a,none⟩) n c)).run P w=.ok l.toArray w/\LR ro [] w (es.take j).flatten l/\ ∀v∈l,Qu v:=by
 obtain⟨f,m,d⟩:=(h.take j).flat;rw[Xu,Xx g]at d;obtain⟨l,i,e⟩:=Qcb (c:=c) f d;exact⟨m,l,(i w rfl),e⟩
theorem QbH{k n c:Nat}{a:Option Addr}{w:World}:(Builtin.firstCells k 0 (.slice a n c)).run P w=.ok #[] w:=by
 cases a<;>simp[go_sem]
theorem Qjn{α:Type}{e:α->List A}{k:Nat}{l:List α}:Qhf P H (.rsl k (l.map e)) k (l.map e):=by
 intro fr m σ w v s ⟨a,c,h1,h2,d⟩;subst h1;refine⟨⟨a,c,rfl⟩,λj h=>?_⟩;rcases d with d|⟨b,f,rfl,i,g⟩
 .obtain rfl:j=0:=by grind
  exact⟨trivial,[],QbH,rfl,by simp⟩
 .exact Qdd (fr:=fr) (σ:=σ) g h
theorem Qhf.osl{i s n k t:Nat}{es a:List (List A)}(B:H[i]?=some (.row t k es))(he:(es.drop s).take n=a)(N:s+n<=es.length):Qhf P H (.osl i s n k) k a:=by
 intro fr M σ w v sm h;have q:a.length=n:=by grind
 rcases h with⟨rfl,rfl⟩|⟨b,p,d,L,m,y,rfl,E,⟨J,g⟩,G,F⟩
 .have e:a=[]:=(by grind);subst e;refine⟨⟨none,0,rfl⟩,λj u=>?_⟩;obtain rfl:j=0:=by omega
  exact⟨trivial,[],QbH,rfl,by simp⟩
 .rw[q];refine⟨⟨_,d,rfl⟩,λj u=>?_⟩;obtain⟨l,r,z⟩:=sm.blk i _ _ y B;have f:=((YB (pre:=[]) (by simpa using r) z).drop s).take n;rw[he]at f;by_cases x:0<d
  .obtain rfl:=E x;simpa using Qdd (fr:=fr) (σ:=σ) f (by omega)
  .obtain rfl:j=0:=by omega
   exact⟨trivial,[],QbH,rfl,by simp⟩
theorem Qjo{α:Type}{e:α->List A}{b t k:Nat}{l r:List α}{a c:Int}(h:slc l a c=some r)(f:H[b]?=some (.row t k (l.map e)):=by exact rfl):Qhf P H (.osl b (0+a.toNat) (c.toNat-a.toNat) k) k (r.map e):=by
 obtain⟨i,g,j,d⟩:=Qda h;refine Qhf.osl f ?_ (by grind);rw[<- d, <- List.map_drop, <- List.map_take,Xs,List.drop_take]
def cpy{α:Type}(l:List α)(a c:Int)(m:List α):Option (List α):=some (l.take a.toNat++m.take (c.toNat-a.toNat)++l.drop (a.toNat+min m.length (c.toNat-a.toNat)))
theorem Qc0{α:Type}{l r l' m:List α}{a c:Int}(h:slc l a c=some r)(d:cpy l a c m=some l'):l.length=l'.length:=by
 obtain⟨e,g,f,_⟩:=Qda h;rw[<- XU d]
 grind
theorem Qdx{α:Type}{l l' m:List α}(a:cpy l 0 l.length m=some l'):l.length=l'.length:=by
 rw[<- XU a]
 grind
theorem Qen{α:Type}{e:α->List A}{c:Call}{T T' et k b a n t:Nat}{x y:Operand}{ya:A}{l m l':List α}(ab:a+n<=l.length)(af:l.take a++m.take n++l.drop (a+min m.length n)=l')(hT:∀w,(underlying T).run P w=.ok (.slice et) w)(B:∀w,(sizeOf et).run P w=.ok k w)(Y:Qhf P H ya k (m.map e))
  (ho:o.op=.call c)(hc:c={callee:=.builtin .copy,args:= #[x,y],argTypes:= #[T,T']})(hx:opA env x=.osl b a n k)(hH:H[b]?=some (.row t k (l.map e)))(O:opA env y=ya):
  OpH P o env H (.int .i64 (min m.length n:Nat)) (H.set b (.row t k (l'.map e))):=by
 intro M J σ N ac w r;have q:=Ql r x;rw[hx]at q;have h2:=Ql r y;rw[O]at h2;obtain⟨⟨ay,cy,Q⟩,q2⟩:=Y M J σ w _ r.sim h2;rw[XW]at Q q2;obtain⟨q3,E,F,W,q6⟩:=q2 (min m.length n) (Nat.min_le_left _ _);have g:((m.map e).take (min m.length n)).length=min m.length n:=by simp
 have L:l'.map e=(l.map e).take a++(m.map e).take (min m.length n)++(l.map e).drop (a+((m.map e).take (min m.length n)).length):=by
  grind[List.map_take,List.map_drop]
 have f:(Builtin.copy_ #[T,T'] o.type #[ac.eval x,ac.eval y]).run P w=.ok (.int .i64 (min m.length n:Nat)) w->min m.length n=0->
   ∃v w' ro' τ,(execOp ac.eval o).run P w=.ok (.value v) w'/\VR ro' (σ++τ) w' (.int .i64 (min m.length n:Nat)) v/\Sim M ro' (σ++τ) (H.set b (.row t k (l'.map e))) w'/\Qi M J w ro' w':=by
  intro h hz;have Y:H.set b (.row t k (l'.map e))=H:=by
   have:l'.map e=l.map e:=by simp_all
   grind[List.set_getElem_self]
  refine⟨_,w,J,[],?_,rfl,by simpa[Y]using r.sim,Qi.refl _ _ _⟩;subst hc;generalize ac.eval=ρ at*
  simp_all[execOp,resolve,invoke,builtin]
 have u:∀j:Nat,goInt j=.int .i64 j:=λ_=>rfl;rcases q with⟨G,q⟩|⟨bb,p,ad,t',mm,q,h3,h4,⟨h5,ae⟩,h6,h7⟩
 .refine f ?_ (by omega);rw[Q]at F⊢;rw[q];have:Nat.min m.length 0=min m.length n:=by rw[G]
  simp only[Builtin.copy_,XB,Xz,XA,Vg,hT,B,Result.andThen,Builtin.lenOf,Vh,this,F,u]
 .have d:∀R:Result Unit,(storeCells ⟨bb,p,none⟩ E).run P w=R->(Builtin.copy_ #[T,T'] o.type #[ac.eval x,ac.eval y]).run P w=R.andThen λ_ w=>.ok (.int .i64 (min m.length n:Nat)) w:=by
   intro R hR;rw[Q]at F⊢;rw[h3];have:Nat.min m.length n=min m.length n:=rfl;simp only[Builtin.copy_,XB,Xz,XA,Vg,hT,B,Result.andThen,Builtin.lenOf,Vh,this,F,u,hR]
  by_cases G:min m.length n=0
  .have s:E=[]:=by
    have:=W.length;rw[G]at this;exact Vy.1 (by simpa using this)
   refine f ?_ G;have:=d (.ok () w) (by rw[s];rfl);rw[this];rfl
  .obtain rfl:=h4 (by omega);obtain⟨l0,g1,g2⟩:=r.sim.blk b _ _ q hH;have X:=g2.length;have s:=W.length;rw[YE q3,g]at s;have aa:a*k+(min m.length n)*k<=l0.length:=by
    rw[<- Xw];refine XQ (Xy k ?_) X;rw[XW];omega
   have z:=Q9 (P:=P) (vs:=E) (a*k) 0 g1 (by omega) q6;rw[Xt]at z;have h:=d _ z;have i:=r.sim.set (x':=.row t k (l'.map e)) (obj:=.cells (splice l0 (a*k) E).toArray t (0,0)) q hH rfl
    (λy O=>Qab g1 (Q7 (by omega)) y O)
    (λex V=>⟨_,V,by
     rw[L];exact(RL.put g2 (by rw[g,XW];omega) q3 W q6).mono ex.nil⟩)
   refine⟨_,_,J,[],?_,rfl,by simpa using i.1,i.2⟩;subst hc;generalize ac.eval=ρ at*;simp only[execOp,ho,resolve,Vg,Vh,Result.andThen,invoke,builtin,XD,Vd,Ve,h]
theorem Qhr{α:Type}{e:α->List A}{c:Call}{T T' et k b t:Nat}{x y:Operand}{d:A}{l m l':List α}(h:cpy l 0 l.length m=some l')(g:∀w,(underlying T).run P w=.ok (.slice et) w)(a:∀w,(sizeOf et).run P w=.ok k w)(i:Qhf P H d k (m.map e))
  (f:o.op=.call c:=by exact rfl)(hc:c={callee:=.builtin .copy,args:= #[x,y],argTypes:= #[T,T']}:=by exact rfl)(hx:opA env x=.osl b 0 l.length k:=by exact rfl)(hH:H[b]?=some (.row t k (l.map e)):=by exact rfl)(hy:opA env y=d:=by exact rfl):
  OpH P o env H (.int .i64 (min m.length l.length:Nat)) (H.set b (.row t k (l'.map e))):=by
 refine Qen (by omega) ?_ g a i f hc hx hH hy;rw[<- XU h];rfl
theorem Qhs{α:Type}{e:α->List A}{c:Call}{T T' et k b t:Nat}{x y:Operand}{d:A}{l p m l':List α}{i j:Int}(hi:slc l i j=some p)(h:cpy l i j m=some l')(g:∀w,(underlying T).run P w=.ok (.slice et) w)(a:∀w,(sizeOf et).run P w=.ok k w)(n:Qhf P H d k (m.map e))
  (f:o.op=.call c:=by exact rfl)(hc:c={callee:=.builtin .copy,args:= #[x,y],argTypes:= #[T,T']}:=by exact rfl)(hx:opA env x=.osl b (0+i.toNat) (j.toNat-i.toNat) k:=by exact rfl)(hH:H[b]?=some (.row t k (l.map e)):=by exact rfl)(hy:opA env y=d:=by exact rfl):
  OpH P o env H (.int .i64 (min m.length (j.toNat-i.toNat):Nat)) (H.set b (.row t k (l'.map e))):=by
 obtain⟨s,u,r,q⟩:=Qda hi;refine Qen (by omega) (XU h) g a n f hc ?_ hH hy
 grind
end
open Go.MapKept
section
variable {fr ro ro':Nat->Prop} {σ:Sig} {H:Qc} {w:World}
end
theorem Ojr{S B:Type}{d D:Ctl S B}{x:B}(hb:∀b,d=.done b->D=.done b)(h:some (Ctl.done x)=some d):D=.done x:=hb x (Oi h).symm
end Go.Sw
namespace Go.Sw
section
variable {P:Program} {o:Oper} {env:Env} {H:Qc} {α:Type} {e:α->List A}
end
open Go.MapKept
section
variable {P:Program} {o:Oper} {env:Env} {H:Qc}
variable {T kt et:Nat} {α β:Type} [DecidableEq α] {ek:α->A} {ev:β->A} {x y:Operand} {i:Nat} {l:List (α×β)} {k:α} {z0:β} {z:Value}
end
section
variable {fr ro:Nat->Prop} {σ:Sig} {H:Qc} {w:World}
end
end Go.Sw
namespace Go.Sw
structure Fil (α β:Type) where
 number:Int
 r0:List α
 r1:List α
 r2:List α
 reports:List β
 appeal:Bool
 deriving DecidableEq
structure FK (α β:Type) where
 T:Nat
 tF:Nat
 kF:Nat
 tR:Nat
 kR:Nat
 eF:α->List A
 eR:β->List A
section
variable {α β:Type} (K:FK α β)
def QjZ(b:Nat)(x:Fil α β):List A:=[.int .i64 x.number,.osl (b+1) 0 x.r0.length K.kF,.osl (b+2) 0 x.r1.length K.kF,.osl (b+3) 0 x.r2.length K.kF,.osl (b+4) 0 x.reports.length K.kR,.bool x.appeal]
def Qgv(b:Nat)(x:Fil α β):List Blk:=[.cells K.T (QjZ K b x),.row K.tF K.kF (x.r0.map K.eF),.row K.tF K.kF (x.r1.map K.eF),.row K.tF K.kF (x.r2.map K.eF),.row K.tR K.kR (x.reports.map K.eR)]
def fall:Nat->List (Fil α β)->List Blk
 |_,[]=>[]
 |b,x::l=>Qgv K b x++fall (b+5) l
def frp(x:Fil α β):List A:=[.int .i64 x.number,.rsl K.kF (x.r0.map K.eF),.rsl K.kF (x.r1.map K.eF),.rsl K.kF (x.r2.map K.eF),.rsl K.kR (x.reports.map K.eR),.bool x.appeal]
def fent:Nat->List (Fil α β)->List (Int×Nat)
 |_,[]=>[]
 |b,x::l=>(x.number,b)::fent (b+5) l
def ptr0(j:Nat):A:=.ptr j 0
def rpE(x:Fil α β):A:=.rp (frp K x)
def fnum(fs:List (Fil α β)):List (Int×Fil α β):=fs.map λx=>(x.number,x)
theorem Qee(b:Nat)(x:Fil α β)(l:List (Fil α β)):fall K b (x::l)=Qgv K b x++fall K (b+5) l:=rfl
theorem Qg3(b:Nat)(x:Fil α β):(Qgv K b x).length=5:=rfl
end
section
variable {fr ro ro':Nat->Prop} {σ:Sig} {w:World}
theorem QcT(sub:∀c,ro c->ro' c){i t k:Nat}{es:List (List A)}{v:Value}(j:∀b,σ[i]?=some (some b)->BR ro σ w (.row t k es) (some b)/\ro' b)(h:VR ro σ w (.osl i 0 es.length k) v):VR ro' [] w (.rsl k es) v:=by
 rcases h with⟨x,h⟩|⟨b,p,a,z,m,r,h,E,⟨d,f⟩,y,u⟩
 .have:es=[]:=(by grind);subst this;exact⟨none,0,h,XO _,.inl rfl⟩
 .refine⟨_,a,h,d,?_⟩;by_cases e:es=[]
  .exact .inl e
  .right;have B:0<a:=X9 (by grind) d;obtain⟨⟨l,g,s⟩,n⟩:=j b r;refine⟨b,0,by simp,n,?_⟩;have:=YB (pre:=[]) (by simpa using g) s;exact this.keep ⟨sub,λ_ _=>rfl,λ_ _ q=>q,λ_ _ q=>q⟩ rfl
theorem QiQ{ro:Nat->Prop}{w:World}{b t:Nat}:∀{cs:List A} {pre l:List Value},w.heap[b]?=some (.cells (pre++l).toArray t (0,0))->LR ro [] w cs l->(∀v∈l,Qu v)->CR ro [] w b cs pre.length
 |[],pre,l,_,_,_=>trivial
 |a::cs,pre,l,hb,hl,hp=>by
  obtain⟨v,l',rfl,h1,h2⟩:=hl;refine⟨⟨v,?_,hp v (by simp),h1⟩,?_⟩
  .unfold World.cell?
   grind
  .have:=QiQ (pre:=pre++[v]) (by simpa using hb) h2 (by grind)
   grind
variable {α β:Type} (K:FK α β)
theorem Qjk(sub:∀c,ro c->ro' c){b:Nat}{x:Fil α β}{v:Value}(f:∀(d c:Nat) (y:Blk),(Qgv K b x)[d]?=some y->σ[b+d]?=some (some c)->BR ro σ w y (some c)/\ro' c)(h:VR ro σ w (.ptr b 0) v):VR ro' [] w (.rp (frp K x)) v:=by
 obtain⟨c,m,u⟩:=h;obtain⟨⟨l,n,a,k⟩,p⟩:=f 0 c _ rfl m;refine⟨c,0,u,p,(QiQ (pre:=[]) (by simpa using n) ?_ k)⟩;obtain⟨v0,H,rfl,t,a⟩:=a;obtain⟨g,E,rfl,F,a⟩:=a;obtain⟨j,G,rfl,M,a⟩:=a;obtain⟨i,L,rfl,B,a⟩:=a;obtain⟨r,N,rfl,z,a⟩:=a;obtain⟨s,J,rfl,q,a⟩:=a;refine⟨v0,_,rfl,t,g,_,rfl,QcT sub (λc e=>f 1 c _ rfl e) (by grind),j,_,rfl,QcT sub (λc e=>f 2 c _ rfl e) (by grind),i,_,rfl,QcT sub (λc e=>f 3 c _ rfl e) (by grind),
  r,_,rfl,QcT sub (λc e=>f 4 c _ rfl e) (by grind),s,_,rfl,q,a⟩
theorem QiK(sub:∀c,ro c->ro' c){ek:Int->A}(hek:∀(k:Int) (v:Value),VR ro σ w (ek k) v->VR ro' [] w (ek k) v):∀{b:Nat} {fs:List (Fil α β)} {es:List MapEntry},(∀(d c:Nat) (y:Blk),(fall K b fs)[d]?=some y->σ[b+d]?=some (some c)->BR ro σ w y (some c)/\ro' c)->
  ER ro σ w (Qf ek ptr0 (fent b fs)) es->ER ro' [] w (Qf ek (rpE K) (fnum fs)) es
 |b,[],es,_,h=>h
 |b,x::l,es,hb,h=>by
  obtain⟨e,l',rfl,h1,h2,h3⟩:=h;refine⟨e,l',rfl,hek _ _ h1,?_,?_⟩
  .refine Qjk K sub (λd c y hy hc=>hb d c y ?_ hc) h2
   grind[Qee]
  .refine QiK sub hek (λd c y hy hc=>hb (d+5) c y ?_ (by grind)) h3
   grind[Qee,Qg3]
end
section
variable {fr ro:Nat->Prop} {σ:Sig} {w:World} {α β:Type} (K:FK α β)
end
open Go.Sort Go.Proofs Go.Shelf
end Go.Sw
namespace Go.Sw
structure Pl where
 b:Nat
 i0:Nat
 i1:Nat
 i2:Nat
 i3:Nat
def Pl.ix(p:Pl):List Nat:=[p.b,p.i0,p.i1,p.i2,p.i3]
section
variable {α β:Type} (K:FK α β)
def Qf1(p:Pl)(x:Fil α β):List A:=[.int .i64 x.number,.osl p.i0 0 x.r0.length K.kF,.osl p.i1 0 x.r1.length K.kF,.osl p.i2 0 x.r2.length K.kF,.osl p.i3 0 x.reports.length K.kR,.bool x.appeal]
structure QbR (H:Qc) (x:Fil α β) (p:Pl):Prop where
 c:H[p.b]?=some (.cells K.T (Qf1 K p x))
 r0:H[p.i0]?=some (.row K.tF K.kF (x.r0.map K.eF))
 r1:H[p.i1]?=some (.row K.tF K.kF (x.r1.map K.eF))
 r2:H[p.i2]?=some (.row K.tF K.kF (x.r2.map K.eF))
 r3:H[p.i3]?=some (.row K.tR K.kR (x.reports.map K.eR))
abbrev QhA(α β:Type):=List (Fil α β×Pl)
structure Qa9 (lo:Nat) (H:Qc) (bk:QhA α β):Prop where
 laid:∀e∈bk,QbR K H e.1 e.2
 own:∀e∈bk,e.2.ix.Nodup
 ne:bk.Pairwise λe f=>∀i∈e.2.ix,i∉f.2.ix
 lo:∀e∈bk,∀i∈e.2.ix,lo<=i
 num:(bk.map (·.1.number)).Nodup
variable {K} {lo:Nat} {H H':Qc} {bk l r:QhA α β} {e:Fil α β×Pl} {x':Fil α β} {p':Pl}
theorem Qa9.nil:Qa9 K lo H []:=⟨(λ_ h=>by cases h),(λ_ h=>by cases h),List.Pairwise.nil,(λ_ h=>by cases h),List.nodup_nil⟩
theorem QbR.lt(h:QbR K H e.1 e.2):∀i∈e.2.ix,i<H.length:=by
 intro i a;have g:∀{j:Nat} {y:Blk},H[j]?=some y->j<H.length:=(by grind);simp[Pl.ix,X0,List.not_mem_nil,or_false]at a;rcases a with rfl|rfl|rfl|rfl|rfl
 .exact g h.c
 .exact g h.r0
 .exact g h.r1
 .exact g h.r2
 .exact g h.r3
theorem QbR.keep(h:QbR K H e.1 e.2)(k:∀i∈e.2.ix,H'[i]?=H[i]?):QbR K H' e.1 e.2:=by
 refine⟨?_,?_,?_,?_,?_⟩
 .rw[k _ (by simp[Pl.ix])];exact h.c
 .rw[k _ (by simp[Pl.ix])];exact h.r0
 .rw[k _ (by simp[Pl.ix])];exact h.r1
 .rw[k _ (by simp[Pl.ix])];exact h.r2
 .rw[k _ (by simp[Pl.ix])];exact h.r3
theorem Qa9.keep(h:Qa9 K lo H bk)(k:∀j,lo<=j->j<H.length->H'[j]?=H[j]?):Qa9 K lo H' bk:=
 ⟨λe he=>(h.laid e he).keep λi hi=>k i (h.lo e he i hi) ((h.laid e he).lt i hi),h.own,h.ne,h.lo,h.num⟩
theorem Qa9.upd(h:Qa9 K lo H (l++e::r))(w:QbR K H' x' p')(G:x'.number=e.1.number)(y:∀j,lo<=j->j<H.length->j∉e.2.ix->H'[j]?=H[j]?)
  (hi:∀i∈p'.ix,i∈e.2.ix\/H.length<=i)(t:p'.ix.Nodup)(E:lo<=H.length):Qa9 K lo H' (l++(x',p')::r):=by
 obtain⟨x,u,F⟩:=List.pairwise_append.1 h.ne;obtain⟨B,z⟩:=Xc.1 u;have mem:∀f∈l++(x',p')::r,f=(x',p')\/(f∈l++e::r/\ ∀i∈f.2.ix,i∉e.2.ix):=by
  intro f a
  grind
 refine⟨?_,?_,?_,?_,?_⟩
 .intro f a;rcases mem f a with rfl|⟨d,p⟩
  .exact w
  .exact(h.laid f d).keep λi hi=>y i (h.lo f d i hi) ((h.laid f d).lt i hi) (p i hi)
 .intro f a;rcases mem f a with rfl|⟨d,p⟩
  .exact t
  .exact h.own f d
 .refine List.pairwise_append.2 ⟨x,Xc.2 ⟨?_,z⟩,?_⟩
  .intro f a i k m;rcases hi i k with q|q
   .grind
   .have:=(h.laid f (by simp[a])).lt i m;omega
  .intro f a g s i m n;rcases X0.1 s with rfl|s
   .rcases hi i n with q|q
    .grind
    .have:=(h.laid f (by simp[a])).lt i m;omega
   grind
 .intro f a;rcases mem f a with rfl|⟨d,p⟩
  .intro i k;rcases hi i k with q|q
   .exact h.lo e (by simp) i q
   .omega
  .exact h.lo f d
 .have:=h.num
  grind
theorem Qa9.add(h:Qa9 K lo H bk)(l:QbR K H' x' p')(t:∀e∈bk,e.1.number≠x'.number)(m:∀j,lo<=j->j<H.length->H'[j]?=H[j]?)
  (hi:∀i∈p'.ix,H.length<=i)(k:p'.ix.Nodup)(r:lo<=H.length):Qa9 K lo H' (bk++[(x',p')]):=by
 have n:=h.keep m;have mem:∀f∈bk++[(x',p')],f∈bk\/f=(x',p'):=by
  simp
 refine⟨?_,?_,?_,?_,?_⟩
 .intro f a;rcases mem f a with q|rfl
  .exact n.laid f q
  .exact l
 .intro f a;rcases mem f a with q|rfl
  .exact h.own f q
  .exact k
 .refine List.pairwise_append.2 ⟨h.ne,by simp,λf a g s i d p=>?_⟩;have:=(h.laid f a).lt i d
  grind
 .intro f a i d;rcases mem f a with q|rfl
  .exact h.lo f q i d
  grind
 .rw[Xf];refine List.nodup_append.2 ⟨h.num,by simp,?_⟩
  grind
end
section
variable {fr ro ro':Nat->Prop} {σ:Sig} {w:World} {α β:Type} (K:FK α β)
def Qio(bk:QhA α β):List Nat:=bk.flatMap λe=>e.2.ix
theorem Qa9.all{lo:Nat}{H:Qc}:∀{f:QhA α β},Qa9 K lo H f->(Qio f).Nodup/\ ∀i∈Qio f,lo<=i/\ ∃y,H[i]?=some y/\y.live=true:=by
 intro f h;refine⟨?_,?_⟩
 .have k:=h.own;have j:=h.ne
  grind[Qio]
 .intro i d;obtain⟨e,g,d⟩:=List.mem_flatMap.1 d;refine⟨h.lo e g i d,?_⟩;have a:=h.laid e g;simp[Pl.ix,X0,List.not_mem_nil,or_false]at d;rcases d with rfl|rfl|rfl|rfl|rfl
  .exact⟨_,a.c,rfl⟩
  .exact⟨_,a.r0,rfl⟩
  .exact⟨_,a.r1,rfl⟩
  .exact⟨_,a.r2,rfl⟩
  .exact⟨_,a.r3,rfl⟩
end
section
variable {α β:Type} (K:FK α β) {env:Env} {H:Qc}
end
section
variable {P:Program} {h0 N:Nat} {all:Array Oper} {o:Oper} {l:List Oper} {env:Env} {H:Qc} {Q:Qx}
end
section
variable {h0 n:Nat} {env env':Env} {H H':Qc}
end
section
variable {P:Program} {o:Oper} {env:Env} {H:Qc} {α:Type}
end
section
variable {α β:Type}
def newF(k:Int):Fil α β:=⟨k,[],[],[],[],false⟩
variable (K:FK α β) {lo:Nat} {H H':Qc} {bk:QhA α β}
def QgX(n:Nat):Pl:=⟨n,n+1,n+2,n+3,n+4⟩
def QcV(n:Nat)(k:Int):Qc:=[.cells K.T (Qf1 K (QgX n) (newF k)),.row K.tF K.kF [],.row K.tF K.kF [],.row K.tF K.kF [],.row K.tR K.kR []]
theorem QbR.new{k:Int}:QbR K (H++QcV K H.length k) (newF k) (QgX H.length):=by
 have g:∀(j:Nat) (y:Blk),(QcV K H.length k)[j]?=some y->(H++QcV K H.length k)[H.length+j]?=some y:=by
  grind
 exact⟨g 0 _ rfl,g 1 _ rfl,g 2 _ rfl,g 3 _ rfl,g 4 _ rfl⟩
theorem Qgq(n:Nat):(∀i∈(QgX n).ix,n<=i)/\(QgX n).ix.Nodup:=by
 simp_all[Pl.ix,QgX]
variable {K}
theorem Qa9.new{k:Int}(h:Qa9 K lo H bk)(a:∀e∈bk,e.1.number≠k)(d:lo<=H.length):Qa9 K lo (H++QcV K H.length k) (bk++[(newF k,QgX H.length)]):=by
 refine h.add (QbR.new K) a (by grind) (Qgq _).1 (Qgq _).2 d
theorem Qa9.row{l r:QhA α β}{e:Fil α β×Pl}{x':Fil α β}{d:Pl}{i:Nat}{y:Blk}(h:Qa9 K lo H (l++e::r))(n:lo<=H.length)(z:x'.number=e.1.number)(hi:i∈e.2.ix)(g:i≠e.2.b)(w:d.b=e.2.b)
  (J:H'=(H.set i .dead++[y]).set e.2.b (.cells K.T (Qf1 K d x')))
  (t:d.ix=e.2.ix.map λj=>bif Nat.beq j i then H.length else j)
  (p:H'[d.i0]?=some (.row K.tF K.kF (x'.r0.map K.eF)))(x:H'[d.i1]?=some (.row K.tF K.kF (x'.r1.map K.eF)))(B:H'[d.i2]?=some (.row K.tF K.kF (x'.r2.map K.eF)))(q:H'[d.i3]?=some (.row K.tR K.kR (x'.reports.map K.eR))):
  Qa9 K lo H' (l++(x',d)::r):=by
 have k:=h.laid e (by simp);have f:=k.lt;have u:e.2.b<H.length:=f _ (by simp[Pl.ix]);refine h.upd ⟨?_,p,x,B,q⟩ z ?_ ?_ ?_ n
 .grind
 .grind[List.getElem?_set_ne,Pl.ix]
 .grind
 .rw[t];have m:=h.own e (by simp);refine List.pairwise_map.2 (List.Pairwise.imp_of_mem ?_ m);intro a b F w s;cases E:Nat.beq a i with
  |true=>
   cases G:Nat.beq b i with
   |true=>simp_all
   |false=>grind
  |false=>
   grind
end
section
variable {fr ro:Nat->Prop} {σ:Sig} {H:Qc} {w:World}
end
section
variable {P:Program} {o:Oper} {env:Env} {H:Qc}
theorem Le.frow{u s i n k t:Nat}{es:List (List A)}(F:lk env s=.osl i 0 n k)(x:H[i]?=some (.frow t k es))(y:es.length=n):Le u env H (up env s (.rsl k es)) H:=by
 intro Q J σ N a w r;refine⟨J,σ,⟨r.sim,?_,r.size,r.defers⟩,λ_ q=>q,rfl⟩;intro e;simp only[lk];by_cases q:e=s
 .subst q;rw[Vu];have:=r.env e;rw[F]at this;rcases this with⟨g,f⟩|⟨b,p,d,P,m,g,f,j,⟨T,L⟩,O,R⟩
  .have:es=[]:=(by grind);subst this;exact⟨none,0,by rw[f];rfl,XO _,.inl rfl⟩
  .obtain⟨E,l,B,M,V⟩:=r.sim.blk i _ _ g x;refine⟨_,d,by rw[f,y],by omega,?_⟩;by_cases h:es=[]
   .exact .inl h
   .right;have G:0<d:=(by grind);have W:=j G;exact⟨b,0,by simp,E,(YB (pre:=[]) (by simpa using B) M)⟩
 .have:Nat.beq e s=false:=by
   cases z:Nat.beq e s with
   |true=>simp_all
   |false=>rfl
  rw[this];exact r.env e
end
open Go.MapKept
section
variable {P:Program} {kt et:Nat} {α β:Type} [DecidableEq α] {ek:α->A} {ev:β->A} {ro:Nat->Prop} {σ:Sig} {w:World} (K:YZ P kt ek)
include K
variable {o:Oper} {env:Env} {H:Qc} {T T' i:Nat} {x y:Operand} {l m:List (α×β)} {k:α}
end
end Go.Sw
namespace Go.Sw
section
variable {P:Program} {h0 N:Nat} {all:Array Oper} {o1 o2:Oper} {l:List Oper} {env:Env} {H:Qc} {Q:Qx}
end
section
variable {P:Program} {o:Oper} {env:Env} {H:Qc}
end
section
variable {P:Program} {o:Oper} {env:Env} {H:Qc} {α:Type}
end
theorem QgJ{h0:Nat}{env:Env}{H H':Qc}(e:H=H'):Le h0 env H env H':=e▸Le.refl h0 env H
section
variable {P:Program} {o:Oper} {env:Env} {H:Qc}
end
section
variable {env:Env} {H:Qc}
theorem Qax{h0 i j m o' n k T:Nat}{x:Blk}{d:List A}(hi:H[i]?=some x)(E:H[j]?=some (.cells T d))(u:d[m]?=some (.osl i o' n k))(e:Nat.beq i j=false)(W:Nat.ble h0 H.length=true):
  Le h0 env H env ((H.set i .dead).set j (.cells T (d.set m (.osl H.length o' n k)))++[x]):=by
 intro fr z σ N a w r;have hiσ:i<σ.length:=by rw[r.sim.len];exact(XG.1 hi).1
 have hσ:σ[i]?=some σ[i]:=XF hiσ;have ext:Ext z σ w z (σ++[σ[i]]) w:=⟨λ_ q=>q,λ_ _=>rfl,λ_ _ q=>q,λ_ _ h=>QbD h⟩;have R:=r.sim.moved hi hσ;have g:j<H.length:=(XG.1 E).1;have B:i≠j:=λq=>by rw[q,Vu]at e;cases e
 have f:(H.set i .dead++[x])[j]?=some (.cells T d):=by
  rw[XH (by simpa using g),XK B];exact E
 have L:(H.set i .dead).set j (.cells T (d.set m (.osl H.length o' n k)))++[x]=(H.set i .dead++[x]).set j (.cells T (d.set m (.osl H.length o' n k))):=by
  rw[List.set_append_left _ _ (by simpa using g)]
 rw[L];refine⟨z,σ++[σ[i]],⟨R.weaken f rfl ?_,λq=>(r.env q).mono ext,r.size,r.defers⟩,λ_ q=>q,QB (by rw[r.sim.len];exact XM W)⟩;have s:σ.length=H.length:=r.sim.len;intro y h;cases y with
 |none=>exact h
 |some b=>
  obtain⟨l,J,X,O⟩:=h;refine⟨l,J,?_,O⟩;clear J O f L E R
  induction d generalizing m l with
  |nil=>cases u
  |cons c d V=>
   obtain⟨v,F,rfl,M,Q⟩:=X;cases m with
   |zero=>
    simp at u;subst u;refine⟨v,F,rfl,?_,Q⟩;rcases M with h|⟨b,p,G,t,m,P,Y⟩
    .exact .inl h
    .refine .inr ⟨b,p,G,t,m,?_,Y⟩;rw[XH hiσ,hσ]at P;rw[<- s];simpa using P
   |succ m=>exact⟨v,F,rfl,M,V (by simpa using u) F Q⟩
theorem OpU.ins{P:Program}{o:Oper}{H':Qc}{T:Nat}{x y e:Operand}(f:o.op=.insert T x y e)(h:OpU P {o with op:=.mapUpdate T x y e} env H H'):OpU P o env H H':=by
 intro l j σ N a w r;obtain⟨i,d,τ,k,m,g⟩:=h l j σ N a w r;exact⟨i,d,τ,by simpa only[execOp,f]using k,m,g⟩
end
section
variable {P:Program} {o:Oper} {env:Env} {H:Qc} {T kt et:Nat} {α β:Type} [DecidableEq α] {ek:α->A} {ev:β->A} {x y:Operand} {i:Nat} {l:List (α×β)} {k:α} {z:Value} {zA:A}
end
open Go.Sort Go.Proofs Go.Shelf
def insL(l:List Int)(i:Int)(m:List Int):Option (List Int):=bif decide (0<=i)&&(decide (i<=l.length)&&(Nat.blt 0 m.length&&Nat.ble (l.length+m.length) Yg))then some (l.take i.toNat++m++l.drop i.toNat)else none
theorem Qi3{l m r:List Int}{i:Int}(h:insL l i m=some r):∃j:Nat,i=j/\j<=l.length/\0<m.length/\l.length+m.length<=Yg/\r=l.take j++m++l.drop j:=by
 unfold insL at h;cases q:decide (0<=i)&&(decide (i<=l.length)&&(Nat.blt 0 m.length&&Nat.ble (l.length+m.length) Yg))with
 |false=>rw[q]at h;cases h
 |true=>
  rw[q]at h;cases h;simp only[XR,Vk]at q;obtain⟨f,e,a,d⟩:=q;exact⟨i.toNat,by omega,by omega,by simpa using a,XM d,rfl⟩
theorem YR(b:Nat)(t:TypeId):∀(vs pre d a:List Value) (w:World),d.length=vs.length->w.heap[b]?=some (.cells (pre++d++a).toArray t (0,0))->
  w.setCells b pre.length vs={w with heap:=w.heap.setIfInBounds b (.cells (pre++vs++a).toArray t (0,0))}
 |[],pre,d,a,w,hl,hb=>by
  have:=Vy.1 hl;subst this;rw[World.setCells];obtain⟨h1,h2⟩:=X7.1 hb;have:w.heap.setIfInBounds b (.cells (pre++[]++a).toArray t (0,0))=w.heap:=by
   apply Array.ext_getElem?;intro i;rw[X8];by_cases h:b=i
   .subst h;rw[Vm rfl,Vm h1,hb]
   .rw[Vl h]
  rw[this]
 |v::vs,pre,d,a,w,hl,hb=>by
  cases d with
  |nil=>cases hl
  |cons z d=>
   simp[XV,Nat.add_right_cancel_iff]at hl;have hbl:=(X7.1 hb).1;have e:w.setCell ⟨b,pre.length,none⟩ v={w with heap:=w.heap.setIfInBounds b (.cells ((pre++[v])++d++a).toArray t (0,0))}:=by
    unfold World.setCell;congr 1;apply Array.ext_getElem?;intro i;rw[Array.getElem?_modify,X8];by_cases h:b=i
    .subst h;rw[Vm rfl,Vm rfl,Vm hbl,hb];simp
    .rw[Vl h,Vl h]
   rw[World.setCells,e];have:=YR b t vs (pre++[v]) d a {w with heap:=w.heap.setIfInBounds b (.cells ((pre++[v])++d++a).toArray t (0,0))} hl (by
    rw[X8,Vm rfl,Vm hbl])
   rw[XX,List.length_singleton]at this;rw[this];simp
theorem QaS(l:List Int):∀v∈l.map (Value.int .i64),v.oneCell'=true:=by
 intro v a;obtain⟨x,_,rfl⟩:=Xe.1 a;rfl
theorem Qey{ro:Nat->Prop}{σ:Sig}{w:World}:∀l:List Int,LR ro σ w ((l.map λx=>[A.int .i64 x]).flatten) (l.map (Value.int .i64))
 |[]=>rfl
 |x::l=>⟨_,_,rfl,rfl,Qey l⟩
theorem Qdm(l:List Int):∀v∈l.map (Value.int .i64),Qu v:=by
 intro v a;obtain⟨x,_,rfl⟩:=Xe.1 a;trivial
theorem Qck:∀l:List Int,allK 1 (l.map λx=>[A.int .i64 x])
 |[]=>trivial
 |_::l=>⟨rfl,Qck l⟩
theorem QjV{fr ro:Nat->Prop}{σ:Sig}{t:Nat}{B:Blk}{l r:List Int}{w W:World}{rest:List Value}(s:Sim fr ro σ [.row t 1 (l.map λx=>[A.int .i64 x]),B] w)
  (g:W.heap=(w.alloc (.cells (r.map (Value.int .i64)++rest).toArray t)).heap)(a:W.os=w.os)(f:W.tape=w.tape)(e:W.output=w.output)(d:w.drawn<=W.drawn):
  Sim fr ro (σ++[some w.heap.size]) [.dead,B,.row t 1 (r.map λx=>[A.int .i64 x])] W/\Qi fr ro w ro W:=by
 have j:=s.kill 0;obtain⟨i,h⟩:Sim fr ro (σ++[some w.heap.size]) ([.dead,B]++[.row t 1 (r.map λx=>[A.int .i64 x])]) (w.alloc (.cells (r.map (Value.int .i64)++rest).toArray t))/\Qi fr ro w ro (w.alloc (.cells (r.map (Value.int .i64)++rest).toArray t)):=
  ⟨Sim.allocRow j (Qck r) (Qey r) (Qdm r),Qi.alloc _ s.roLt s.frLt⟩
 exact⟨i.heap g,h.trans (Qi.heap g a f e d)⟩
theorem Qh4{fr ro:Nat->Prop}{σ:Sig}{t b:Nat}{B:Blk}{l r:List Int}{w:World}{a rest:List Value}(s:Sim fr ro σ [.row t 1 (l.map λx=>[A.int .i64 x]),B] w)(d:σ[0]?=some (some b))
  (e:w.heap[b]?=some (.cells a.toArray t (0,0)))(f:(r.map (Value.int .i64)++rest).length=a.length):
  Sim fr ro (σ++[some b]) [.dead,B,.row t 1 (r.map λx=>[A.int .i64 x])] {w with heap:=w.heap.setIfInBounds b (.cells (r.map (Value.int .i64)++rest).toArray t (0,0))}/\
   Qi fr ro w ro {w with heap:=w.heap.setIfInBounds b (.cells (r.map (Value.int .i64)++rest).toArray t (0,0))}:=by
 obtain⟨h,g⟩:=s.set (x':=.row t 1 (r.map λx=>[A.int .i64 x])) d rfl rfl
  (λy i=>Qab e f y i) (λ_ hex=>⟨_,hex,Qaf (Qck r) (Qey r) (Qdm r)⟩)
 exact⟨h.moved rfl d,g⟩
theorem Qfo{w:World}{a b:Array Value}{t:Nat}(h:a.toList=b.toList):(w.drew.alloc (.cells a t)).heap=(w.alloc (.cells b t)).heap:=by
 rw[Xr.1 h];rfl
theorem YG(b:Nat):∀(vs:List Value) (o:Nat) (w:World),(w.setCells b o vs).os=w.os/\(w.setCells b o vs).tape=w.tape/\(w.setCells b o vs).output=w.output/\(w.setCells b o vs).drawn=w.drawn
 |[],_,_=>⟨rfl,rfl,rfl,rfl⟩
 |v::vs,o,w=>YG b vs (o+1) (w.setCell ⟨b,o,none⟩ v)
theorem Qe9{h:Array Obj}{a b:Obj}:(h.push a).setIfInBounds h.size b=h.push b:=by
 apply Array.ext_getElem?;intro i;rw[X8];by_cases q:h.size=i
 .subst q;simp
 .rw[Vl q,Array.getElem?_push,Array.getElem?_push,Vl (λe=>q e.symm),Vl (λe=>q e.symm)]
theorem QjH{n:Nat}:(Builtin.zeroCells (Value.int .i64 0).cells n).toList.length=n:=by simp[Builtin.zeroCells,Value.cells]
theorem Qg1{w:World}{t c j:Nat}{l m:List Int}(g:j<=l.length):
  (((((w.alloc (.cells (((l.map (Value.int .i64)).take j).toArray++Builtin.zeroCells (Value.int .i64 0).cells (l.length+m.length-j)++Builtin.zeroCells (Value.int .i64 0).cells c) t)).drew.setCells w.heap.size j (m.map (Value.int .i64))).drew).setCells w.heap.size (j+m.length) ((l.map (Value.int .i64)).drop j)).heap)=
   (w.alloc (.cells ((l.take j++m++l.drop j).map (Value.int .i64)++(Builtin.zeroCells (Value.int .i64 0).cells c).toList).toArray t)).heap:=by
 have d:=QjH (n:=l.length+m.length-j);generalize(Builtin.zeroCells (Value.int .i64 0).cells (l.length+m.length-j))=Z1 at*;generalize(Builtin.zeroCells (Value.int .i64 0).cells c)=Z2 at*;rw[show(((l.map (Value.int .i64)).take j).toArray++Z1++Z2)=((l.map (Value.int .i64)).take j++Z1.toList.take m.length++(Z1.toList.drop m.length++Z2.toList)).toArray from by
  apply Xr.1;simp[Array.toList_append,Vc];rw[<- Vc (List.take m.length _),Xv]]
 have f:((l.map (Value.int .i64)).take j).length=j:=by simp;omega
 have a:=YR w.heap.size t (m.map (Value.int .i64)) ((l.map (Value.int .i64)).take j) (Z1.toList.take m.length) (Z1.toList.drop m.length++Z2.toList) (w.alloc (.cells ((l.map (Value.int .i64)).take j++Z1.toList.take m.length++(Z1.toList.drop m.length++Z2.toList)).toArray t)).drew (by simp at d⊢;omega) (Yi _ _);rw[f]at a;have e:=YR w.heap.size t ((l.map (Value.int .i64)).drop j) ((l.map (Value.int .i64)).take j++m.map (Value.int .i64)) (Z1.toList.drop m.length) Z2.toList
  {(w.alloc (.cells ((l.map (Value.int .i64)).take j++Z1.toList.take m.length++(Z1.toList.drop m.length++Z2.toList)).toArray t)).drew with heap:=(w.alloc (.cells ((l.map (Value.int .i64)).take j++Z1.toList.take m.length++(Z1.toList.drop m.length++Z2.toList)).toArray t)).drew.heap.setIfInBounds w.heap.size (.cells ((l.map (Value.int .i64)).take j++m.map (Value.int .i64)++(Z1.toList.drop m.length++Z2.toList)).toArray t (0,0))}.drew (by simp at d⊢;omega) (by
   show((w.heap.push _).setIfInBounds w.heap.size _)[w.heap.size]?=_;simp)
 rw[show((l.map (Value.int .i64)).take j++m.map (Value.int .i64)).length=j+m.length from by simp;omega]at e;rw[a,e];show((w.heap.push _).setIfInBounds w.heap.size _).setIfInBounds w.heap.size _=w.heap.push _;rw[Qe9,Qe9];simp[Xf,List.map_take,List.map_drop]
theorem Qhz{P:Program}{ρ:Ren}(L:Lays2.n21 P ρ){t2:Nat}{l m r:List Int}{i:Int}(h:insL l i m=some r):
  C P (ρ.f 21) [.osl 0 0 l.length 1,.int .i64 i,.osl 1 0 m.length 1] [.row (ρ.t 3) 1 (l.map λx=>[A.int .i64 x]),.row t2 1 (m.map λx=>[A.int .i64 x])]
   (λa H=>a=.osl 2 0 r.length 1/\H=[.dead,.row t2 1 (m.map λx=>[A.int .i64 x]),.row (ρ.t 3) 1 (r.map λx=>[A.int .i64 x])]):=by
 obtain⟨j,rfl,hj,Y,ab,rfl⟩:=Qi3 h;intro fr ro σ vals w s hv;obtain⟨v0,r0,rfl,af,v1,r1,rfl,ai,v2,r2,rfl,ae,hr⟩:=hv;cases(show r2=[]from hr);cases(show v1=.int .i64 (j:Int)from ai);have ao:Yg=4294967296:=rfl;have X:σ.length=2:=s.len;rcases ae with⟨h0,_⟩|⟨G,vp,vc,vt,vm,g1,rfl,g2,g3,g4,g5⟩
 .omega
 obtain rfl:vp=0:=by have:=g2 (by omega);omega
 obtain⟨al,f1,f2⟩:=s.blk 1 _ _ g1 rfl;obtain⟨ah,rfl⟩:=QeM f2;have E:∀(k:Nat) v,(m.map (Value.int .i64))[k]?=some v->w.cell? ⟨G,0+k,none⟩=some v:=by
  intro k v y;unfold World.cell?;simp only[f1,Option.isSome_none,Xh,if_false,Xs];rw[QaF,XH (by rw[XW];have:=(XG.1 y).1;rw[XW]at this;exact this)];exact y
 have F:(l.take j++m++l.drop j).length=l.length+m.length:=by simp;omega
 have u:∀(c0:Nat) (W:World) (zs:List Value) (e:Value),zs.length=grownCap w (l.length+m.length) c0 (ρ.t 3)-(l.length+m.length)->W.heap=(w.alloc (.cells ((l.take j++m++l.drop j).map (Value.int .i64)++zs).toArray (ρ.t 3))).heap->W.os=w.os->W.tape=w.tape->W.output=w.output->w.drawn<=W.drawn->
   e=.slice (some ⟨w.heap.size,0,none⟩) (l.length+m.length) (grownCap w (l.length+m.length) c0 (ρ.t 3))->
   ∃v r H' ro' τ,Ending.returned e=.returned v/\(r=.osl 2 0 (l.take j++m++l.drop j).length 1/\H'=[.dead,.row t2 1 (m.map λx=>[A.int .i64 x]),.row (ρ.t 3) 1 ((l.take j++m++l.drop j).map λx=>[A.int .i64 x])])/\Sim fr ro' (σ++τ) H' W/\VR ro' (σ++τ) W r v/\Qi fr ro w ro' W:=by
  intro c0 W zs e hz hh hos htp hou hdr he;obtain⟨s1,e1⟩:=QjV s hh hos htp hou hdr;have ak:=grownCap_ge w (l.length+m.length) c0 (ρ.t 3);refine⟨_,_,_,ro,[some w.heap.size],rfl,⟨rfl,rfl⟩,s1,?_,e1⟩;rw[he];refine .inr ⟨w.heap.size,0,_,ρ.t 3,((l.take j++m++l.drop j).map (Value.int .i64)++zs).length,?_,by rw[F],λ_=>by simp,⟨by rw[F];exact ak,grownCap_le_maxLen _ _ _ _ (by unfold maxLen;omega)⟩,?_,?_⟩
  .rw[XI (by omega),X];rfl
  .unfold World.shape?;rw[hh,Yi];simp
  .rw[XX,XW,F,hz];omega
 have fin:∀{W:World} {b n T R:Nat} (z:Nat),l.length+m.length<=n->n<=9223372036854775807->W.shape? b=some (T,R)->(0+n)*1<=R->z=l.length+m.length->VR ro (σ++[some b]) W (.osl 2 0 (l.take j++m++l.drop j).length 1) (.slice (some ⟨b,0,none⟩) z n):=by
  intro W b n T R z h1 h2 h3 h4 h5;refine .inr ⟨b,0,n,T,R,?_,by rw[F,h5],λ_=>by simp,⟨by rw[F];exact h1,h2⟩,h3,h4⟩;rw[XI (by omega),X];rfl
 rcases af with⟨h0,rfl⟩|⟨b,p,n,T,R,q1,rfl,q2,q3,q4,q5⟩
 .have ag:l=[]:=Vy.1 h0;subst ag;obtain rfl:j=0:=by simpa using hj
  have N:=Any2.slices_Insert_int_end_grow L none 0 0 G 0 m.length vc [] (m.map (Value.int .i64)) w Y (XO _) (by omega) (by simp at ab;omega) rfl (by simp) (λ_=>rfl) (λa ha=>by cases ha) E (QaS m);refine N.mono ?_;rintro e W ⟨rfl,rfl⟩;refine u 0 _ (Builtin.zeroCells (Value.int .i64 0).cells (grownCap w (0+m.length) 0 (ρ.t 3)-(0+m.length))).toList _ (by simp[Builtin.zeroCells,Value.cells]) ?_ rfl rfl rfl (Nat.le_succ _) (by simp);exact Qfo (by simp)
 .obtain⟨q3,M⟩:=q3;obtain⟨am,y1,y2⟩:=s.blk 0 _ _ q1 rfl;obtain⟨d,rfl⟩:=QeM y2;have ad:G≠b:=λe=>by
   have:=s.inj 1 0 G _ _ g1 (e▸q1) rfl rfl rfl rfl;omega
  have an:n<=l.length+d.length:=by
   have:w.shape? b=some (ρ.t 3,(l.map (Value.int .i64)++d).length):=by unfold World.shape?;rw[y1];simp
   rw[this]at q4;cases q4;simp at q5;omega
  have hp:0<n->p=0:=λq=>by have:=q2 q;omega
  have B:∀k v,(l.map (Value.int .i64)++d)[k]?=some v->w.cell? ⟨b,0+k,none⟩=some v:=by
   intro k v y;unfold World.cell?;simp only[y1,Option.isSome_none,Xh,if_false,Xs];rw[QaF];exact y
  have Q:∀(k:Nat) v,(l.map (Value.int .i64))[k]?=some v->w.cell? ⟨b,p+k,none⟩=some v:=by
   intro k v y;have J:=(XG.1 y).1;rw[XW]at J;obtain rfl:=hp (by omega);exact B k v (by rw[XH (by rw[XW];exact J)];exact y)
  have V:∀k,w.frozen? ⟨b,k,none⟩=false:=by
   intro k;unfold World.frozen?;simp only[y1];simp
  have aa:∀k,w.frozen? ⟨G,k,none⟩=false:=by
   intro k;unfold World.frozen?;simp only[f1];simp
  by_cases g:l.length+m.length<=n
  .obtain rfl:=hp (by omega);have ac:∀k,k<l.length+m.length->(w.cell? ⟨b,0+k,none⟩).isSome=true:=by
    intro k y;have J:k<(l.map (Value.int .i64)++d).length:=by simp;omega
    rw[B k _ (XF J)];rfl
   by_cases O:j=l.length
   .subst O;have N:=Any2.slices_Insert_int_end_room L b 0 l.length n G 0 m.length vc (m.map (Value.int .i64)) w Y g M (by simp) (λk y=>by simpa[Nat.add_assoc]using ac (l.length+k) (by omega)) (λk _=>V _) E (QaS m);refine N.mono ?_;rintro e W ⟨rfl,rfl⟩;have e1:w.setCells b (0+l.length) (m.map (Value.int .i64))={w with heap:=w.heap.setIfInBounds b (.cells ((l.take l.length++m++l.drop l.length).map (Value.int .i64)++d.drop m.length).toArray (ρ.t 3) (0,0))}:=by
     have:=YR b (ρ.t 3) (m.map (Value.int .i64)) (l.map (Value.int .i64)) (d.take m.length) (d.drop m.length) w (by simp;omega) (by rw[Vc,Xv];exact y1);rw[XW]at this;rw[Xs,this,X4,Xo];simp
    rw[e1];obtain⟨s2,e2⟩:=Qh4 (r:=l.take l.length++m++l.drop l.length) (rest:=d.drop m.length) s q1 y1 (by simp;omega);exact⟨_,_,_,ro,[some b],rfl,⟨rfl,rfl⟩,s2,fin _ g M (e2.shape _ _ q4) q5 rfl,e2⟩
   .have N:=Any2.slices_Insert_int_shift L b 0 l.length n j G 0 m.length vc (l.map (Value.int .i64)) (m.map (Value.int .i64)) w (by omega) Y g M ad (by simp) (by simp) Q ac (λk _=>V _) E (QaS l) (QaS m) vt T vm R g4 q4 (by omega) (aa _) (aa _);refine N.mono ?_;rintro e W ⟨rfl,rfl⟩;have e1:(w.drew.setCells b (0+(j+m.length)) ((l.map (Value.int .i64)).drop j)).setCells b (0+j) (m.map (Value.int .i64))={w.drew with heap:=w.drew.heap.setIfInBounds b (.cells ((l.take j++m++l.drop j).map (Value.int .i64)++d.drop m.length).toArray (ρ.t 3) (0,0))}:=by
     have aj:b<w.drew.heap.size:=(X7.1 y1).1;have k1:=YR b (ρ.t 3) ((l.map (Value.int .i64)).drop j) ((l.map (Value.int .i64)++d).take (j+m.length)) (((l.map (Value.int .i64)++d).drop (j+m.length)).take (l.length-j)) (((l.map (Value.int .i64)++d).drop (j+m.length)).drop (l.length-j)) w.drew (by simp;omega) (by rw[Vc,Xv,Xv];exact y1);rw[show((l.map (Value.int .i64)++d).take (j+m.length)).length=0+(j+m.length)from by simp;omega]at k1;have k2:=YR b (ρ.t 3) (m.map (Value.int .i64)) ((l.map (Value.int .i64)++d).take j) (((l.map (Value.int .i64)++d).drop j).take m.length) ((l.map (Value.int .i64)).drop j++(((l.map (Value.int .i64)++d).drop (j+m.length)).drop (l.length-j))) {w.drew with heap:=w.drew.heap.setIfInBounds b (.cells ((l.map (Value.int .i64)++d).take (j+m.length)++(l.map (Value.int .i64)).drop j++((l.map (Value.int .i64)++d).drop (j+m.length)).drop (l.length-j)).toArray (ρ.t 3) (0,0))} (by simp;omega) (by
      show(w.drew.heap.setIfInBounds b _)[b]?=_;rw[X8,Vm rfl,Vm aj,List.take_add];simp only[Vc])
     rw[show((l.map (Value.int .i64)++d).take j).length=0+j from by simp;omega]at k2;rw[k1,k2];simp only[Array.setIfInBounds_setIfInBounds];rw[List.drop_drop,show j+m.length+(l.length-j)=(l.map (Value.int .i64)).length+m.length from by simp;omega,X5,X2 (by simpa using hj)];simp only[Xf,List.map_take,List.map_drop,Vc]
    rw[e1];obtain⟨s2,e2⟩:=Qh4 (w:=w.drew) (r:=l.take j++m++l.drop j) (rest:=d.drop m.length) (s.heap rfl) q1 y1 (by simp;omega);exact⟨_,_,_,ro,[some b],rfl,⟨rfl,rfl⟩,s2,fin _ g M (e2.shape _ _ q4) q5 rfl,(Qi.heap (w:=w) (w':=w.drew) rfl rfl rfl rfl (Nat.le_succ _)).trans e2⟩
  .by_cases O:j=l.length
   .subst O;have N:=Any2.slices_Insert_int_end_grow L (some ⟨b,p,none⟩) l.length n G 0 m.length vc (l.map (Value.int .i64)) (m.map (Value.int .i64)) w Y q3 (by omega) (by omega) (by simp) (by simp) (λh=>by cases h) (λa ha k v y=>by cases ha;rw[QaM];exact Q k v y) E (QaS m);refine N.mono ?_;rintro e W ⟨rfl,rfl⟩;exact u n _ (Builtin.zeroCells (Value.int .i64 0).cells (grownCap w (l.length+m.length) n (ρ.t 3)-(l.length+m.length))).toList _ (by simp[Builtin.zeroCells,Value.cells]) (Qfo (by simp)) rfl rfl rfl (Nat.le_succ _) rfl
   .have N:=Any2.slices_Insert_int_grow L b p l.length n j G 0 m.length vc (l.map (Value.int .i64)) (m.map (Value.int .i64)) w (by omega) Y q3 (by omega) (by omega) (by simp) (by simp) Q E (QaS l) (QaS m);refine N.mono ?_;rintro e W ⟨rfl,rfl⟩;refine u n _ (Builtin.zeroCells (Value.int .i64 0).cells (grownCap w (l.length+m.length) n (ρ.t 3)-(l.length+m.length))).toList _ (by simp[Builtin.zeroCells,Value.cells]) ?_ (by rw[(YG _ _ _ _).1];exact(YG _ _ _ _).1) (by rw[(YG _ _ _ _).2.1];exact(YG _ _ _ _).2.1) (by rw[(YG _ _ _ _).2.2.1];exact(YG _ _ _ _).2.2.1) (by
     rw[(YG _ _ _ _).2.2.2];show _<=(World.setCells _ _ _ _).drawn+1;rw[(YG _ _ _ _).2.2.2];exact Nat.le_add_right_of_le (Nat.le_add_right _ _)) rfl
    exact Qg1 (by simpa using hj)
end Go.Sw
namespace Go.Sw
theorem TC.label{P:Program}{h0 N l:Nat}{env:Env}{H:Qc}{Q:Qx}(h:Q .normal env H):TC P h0 N (.label l) env H Q:=
 λrd fr ro σ a w r hrd=>wpIn_label ⟨_,env,H,ro,σ,fr,rfl,h,r,Qi.refl _ _ _,rfl,Grow.refl _ _ _⟩
theorem Qe4{P:Program}{b:Frame}{a:Act}{k:List Item}{cs:List Frame}{w:World}{c:Code}:step P (lone (b.atR a (.code (.scope c)::k)) cs w)=.next (lone (b.atR a (.code c::.inScope c::k)) cs w):=
 step_lone_go (by simp[stepG,stepG.exec,Frame.atR])
theorem QdV{P:Program}{b:Frame}{a:Act}{k:List Item}{cs:List Frame}{w:World}{c:Code}:step P (lone (b.atR a (.inScope c::k)) cs w)=.next (lone (b.atR a k) cs w):=
 step_lone_go (by simp[stepG,stepG.exec,Frame.atR])
theorem TC.scope{P:Program}{h0 N:Nat}{c:Code}{env:Env}{H:Qc}{Q:Qx}(h:TC P h0 N c env H Q):TC P h0 N (.scope c) env H Q:=by
 intro q l s σ a w r hrd b k cs hro hb f;obtain⟨e,y,m,j,d⟩:=h q l s σ a w r hrd b (.inScope c::k) cs hro hb f;refine⟨e,y,m,j,.of_steps (.one (fenced_calm hb f rfl) Qe4) ?_⟩;obtain⟨x,i,H',p,σ',t,n,_⟩:=j;cases e with
 |normal=>exact StepsIn.trans d (.one (fenced_calm hb f rfl) QdV)
 |exit id=>exact⟨λu g=>d.1 u (by rw[exitTo];exact g;simp),λf g=>d.2 f (by rw[exitTo];exact g;simp)⟩
 |ret=>exact d
 |_=>exact n.elim
theorem QbN{P:Program}{o:Oper}{env:Env}{H:Qc}{T f off n:Nat}{x:Operand}{g:List A}{v:A}{fs:Array Field}{e:Field}(l:Yb P T f off n)(p:∀w,(underlying T).run P w=.ok (.struct fs) w)(d:fs[f]?=some e)(a:∀w,(isAgg e.type).run P w=.ok false w)
  (i:o.op=.field T x f:=by exact rfl)(hx:opA env x=.agg g:=by exact rfl)(hv:g[off]?=some v:=by exact rfl):OpV P o env H v:=
 OpV.field l (λk j m h w=>by
  have:=(m w).symm.trans (p w);cases this;rw[d]at h;cases h;exact a w) i hx hv
section
variable {P:Program} {o:Oper} {env:Env} {H:Qc} {fr ro:Nat->Prop} {σ:Sig} {w:World}
end
def fnm(P:Program)(i:Nat):String:=match P.funcs[i]? with|some f=>f.name|none=>""
theorem QeH{P:Program}{f:FuncId}{B:Func}(d:(fnm P f=="runtime.NumGoroutine")=false)(h:P.funcs[f]?=some {B with name:=fnm P f}):Go.Proofs.Bears P f B:=⟨_,d,h⟩
def slK(P:Program)(t:Nat):Nat:=match P.underlying t with|some (.slice e)=>e|_=>0
def zA1:A->Value
 |.int k n=>.int k n
 |.bool b=>.bool b
 |.str _=>.string ⟨#[]⟩
 |.rsl _ _=>.slice none 0 0
 |.nils=>.slice none 0 0
 |.nilp=>.pointer none
 |.nilm=>.map none
 |.nilif=>.nilIface
 |_=>.nilFunc
def zA:A->Value
 |.agg r=>.agg (r.map zA1).toArray
 |a=>zA1 a
def kL(P:Program)(F:List (Nat×List (Nat×Nat)))(T:TyX)(Z:TyZ)(w:World):=
 (F.map λe=>(underlying e.1).run P w,F.map λe=>(P.fieldsOf e.1).toList.map λf=>(f.offset,(sizeOf f.type).run P w),
  T.ty.agg.map λe=>((isAgg e.1).run P w,(sizeOf e.1).run P w),T.ty.zer.map λe=>(zeroValue e.1).run P w,
  T.al.map λe=>(zeroValue e.1).run P w,T.sl.map λt=>(underlying t).run P w,Z.sl.map λe=>((underlying e.1).run P w,(sizeOf e.2.1).run P w))
def kR(P:Program)(F:List (Nat×List (Nat×Nat)))(T:TyX)(Z:TyZ)(w:World):=
 (F.map λe=>Result.ok (TypeDesc.struct (P.fieldsOf e.1)) w,F.map λe=>e.2.map λx=>(x.1,Result.ok x.2 w),
  T.ty.agg.map λe=>(Result.ok e.2.1 w,Result.ok e.2.2 w),T.ty.zer.map λe=>Result.ok (zA (.agg e.2.1)) w,
  T.al.map λe=>Result.ok (zA e.2) w,T.sl.map λt=>Result.ok (TypeDesc.slice (slK P t)) w,Z.sl.map λe=>(Result.ok (TypeDesc.slice e.2.1) w,Result.ok e.2.2 w))
def kT(F:List (Nat×List (Nat×Nat)))(T:TyX):Bool:=
 chkF F T.ty.fld&&T.ty.zer.all (λe=>zrB (.agg e.2.1) (zA (.agg e.2.1))&&F.contains (e.1,e.2.2))&&T.al.all λe=>zrB e.2 (zA e.2)&&Q6 e.2&&(QZ e.2).all Yf
theorem Qbh{α β:Type}{L:List α}{f g:World->α->β}(h:∀w,L.map (f w)=L.map (g w)){e:α}(he:e∈L)(w:World):f w e=g w e:=List.map_inj_left.1 (h w) e he
theorem PL.ofK{P:Program}:∀{fs:List Field} {pl:List (Nat×Nat)},(∀w:World,fs.map (λf=>(f.offset,(sizeOf f.type).run P w))=pl.map λx=>(x.1,Result.ok x.2 w))->PL P fs pl
 |[],[],_=>.nil
 |[],_::_,h=>by cases h default
 |_::_,[],h=>by cases h default
 |f::fs,(a,n)::pl,h=>by
  have h1:=λw=>List.cons.inj (h w);have e:=λw=>Prod.mk.inj (h1 w).1;obtain rfl:f.offset=a:=(e default).1;exact .cons (λw=>(e w).2) (PL.ofK λw=>(h1 w).2)
section
variable {P:Program} {F:List (Nat×List (Nat×Nat))} {T:TyX} {Z:TyZ}
theorem QiY(h:kL P F T Z=kR P F T Z):∀e∈F,QdH P e.1 e.2:=λe he=>
 ⟨_,λw=>by simpa using Qbh (f:=λw e=>(underlying e.1).run P w) (λw=>(Prod.mk.inj (congrFun h w)).1) he w,PL.ofK λw=>Qbh (f:=λw e=>(P.fieldsOf e.1).toList.map λf=>(f.offset,(sizeOf f.type).run P w)) (λw=>(Prod.mk.inj (Prod.mk.inj (congrFun h w)).2).1) he w⟩
theorem QaN.ofK(h:kL P F T Z=kR P F T Z)(k:kT F T=true):QaN P T:=by
 have d:=QiY h;simp only[kT,XR,Xp]at k;refine⟨⟨QjY d k.1.1,λe a=>?_,λe a=>?_⟩,λe a=>?_,λe a=>?_⟩
 .have:=Qbh (f:=λw e=>((isAgg e.1).run P w,(sizeOf e.1).run P w)) (λw=>(Prod.mk.inj (Prod.mk.inj (Prod.mk.inj (congrFun h w)).2).2).1) a;exact⟨λw=>(Prod.mk.inj (this w)).1,λw=>(Prod.mk.inj (this w)).2⟩
 .have:=Qbh (f:=λw e=>(zeroValue e.1).run P w) (λw=>(Prod.mk.inj (Prod.mk.inj (Prod.mk.inj (Prod.mk.inj (congrFun h w)).2).2).2).1) a;have q:=k.1.2 e a;exact⟨⟨_,this,zrC q.1⟩,d _ (List.contains_iff_mem.1 q.2)⟩
 .have:=Qbh (f:=λw e=>(zeroValue e.1).run P w) (λw=>(Prod.mk.inj (Prod.mk.inj (Prod.mk.inj (Prod.mk.inj (Prod.mk.inj (congrFun h w)).2).2).2).2).1) a;have q:=k.2 e a;exact⟨⟨_,this,zrC q.1.1⟩,q.1.2,Xp.2 q.2⟩
 .exact⟨_,Qbh (f:=λw t=>(underlying t).run P w) (λw=>(Prod.mk.inj (Prod.mk.inj (Prod.mk.inj (Prod.mk.inj (Prod.mk.inj (Prod.mk.inj (congrFun h w)).2).2).2).2).2).1) a⟩
theorem QbB.ofK(h:kL P F T Z=kR P F T Z)(k:∀f∈Z.fn,∀(a:Array Value) (w:World),(callFunc f a).run P w=.ok (.enter f a) w):QbB P Z:=⟨λe he=>by
 have:=Qbh (f:=λw e=>((underlying e.1).run P w,(sizeOf e.2.1).run P w)) (λw=>(Prod.mk.inj (Prod.mk.inj (Prod.mk.inj (Prod.mk.inj (Prod.mk.inj (Prod.mk.inj (congrFun h w)).2).2).2).2).2).2) he;exact⟨λw=>(Prod.mk.inj (this w)).1,λw=>(Prod.mk.inj (this w)).2⟩,k⟩
theorem Qj5{L:List Nat}(h:(λ(a:Array Value) (w:World)=>L.map λf=>(callFunc f a).run P w)=λa w=>L.map λf=>.ok (.enter f a) w):∀f∈L,∀(a:Array Value) (w:World),(callFunc f a).run P w=.ok (.enter f a) w:=
 λf hf a=>Qbh (f:=λw f=>(callFunc f a).run P w) (λw=>congrFun (congrFun h a) w) hf
end
section
variable {P:Program}
theorem Qge.c{f:Field}{fs:List Field}{h a g:Nat}{d e:List Value->Prop}(j:∀h,QeV P f.type (h+1) 1 false d)(k:Qge P fs (h+1) (a+1) g e)(i:Nat.beq f.offset a=true:=by exact rfl)(hn:f.name≠"_":=by decide):
  Qge P (f::fs) (h+1) a (1+g) (λl=>∃l1 l2,l=l1++l2/\d l1/\e l2):=Qge.cons i hn (j h) (λ_=>rfl) k
theorem RF.c1{n:Nat}{T:Type}{e:T->List A}{wf:T->Prop}{f:Field}{fs:List Field}{off L:Nat}{T2:Type}{e2:T2->List A}{a:T2->Prop}(h:RB P n f.type T e wf)(r:RF P n fs (off+1) L T2 e2 a)(d:f.offset=off:=by exact rfl)(hk:P.cellsOf f.type=1:=by kernel_rfl):
  RF P n (f::fs) off L (T×T2) (λp=>e p.1++e2 p.2) (λp=>wf p.1/\a p.2):=RF.cons d hk h r
end
@[reducible] def Kp{β:Type}(P:Program)(F:Option β)(f:FuncId)(args:List A)(H:Qc)(w:β->A)(H1:β->Qc):Prop:=∀r,F=some r->C P f args H (RQ w H1 r)
theorem Kp.b{β:Type}{P:Program}{F:Option β}{f:FuncId}{fn:Func}{c:Code}{N:Nat}{args:List A}{H:Qc}{w:β->A}{H1:β->Qc}(hf:P.funcs[f]?=some fn)(hb:fn.body=some c)(hN:fn.ntmps=N)(hA:Nat.ble args.length N=true)
  (h:∀r,F=some r->TC P H.length N c (Qa5 0 args) H (YM P H.length fn (RQ w H1 r))):Kp P F f args H w H1:=λr e=>YJ hf hb hN hA (h r e)
theorem Qcz{P:Program}{fn:Func}{tmps:Array Value}{R:Ending->World->Prop}{fr ro:Nat->Prop}{σ:Sig}{H:Qc}{tl:List Deferred}:
  ∀(ds:List Deferred) (w:World),ds.Nodup->(∀d∈ds,∃D,d={target:=.collected D,args:= #[]}/\ ¬ro D/\ ¬fr D/\(∀(i:Nat) (x:Blk),σ[i]?=some (some D)->H[i]?=some x->x.live=true->False)/\(∀(i d:Nat) (x:Blk),σ[i]?=some (some d)->H[i]?=some x->Hid w x d D->False)/\w.heap[D]?=some (.deferred (some [])))->
  Sim fr ro σ H w->(∀w',Sim fr ro σ H w'->Qi fr ro w ro w'->LeavesInM Fence.wide 0 P fn tmps R tl .returning w')->LeavesInM Fence.wide 0 P fn tmps R (ds++tl) .returning w
 |[],w,_,_,s,hk=>hk w s (Qi.refl _ _ _)
 |d::ds,w,hn,hd,s,hk=>by
  obtain⟨D,rfl,h1,h2,h3,h5,h4⟩:=hd d (by simp);obtain⟨n1,n2⟩:=List.nodup_cons.1 hn;obtain⟨s',ev⟩:=s.turn (obj:=.deferred none) h1 h2 h3 h5 (λy q=>by grind[World.shape?]);refine⟨(by simp),.inl ⟨D,_,rfl,run_takeDeferred h4,?_⟩⟩;refine Qcz ds _ n2 (λd' q=>?_) s' (λw' q1 q2=>hk w' q1 (ev.trans q2));obtain⟨D',rfl,g1,g2,g3,g5,g4⟩:=hd d' (by simp[q]);refine⟨D',rfl,g1,g2,g3,λi d x z1 z2 z3=>g5 i d x z1 z2 (s.hidKeep z1 z2 (λz=>World.putObj_heap_other (by grind)) (λb q=>World.putObj_heap_other (λe:b=D=>h1 (e▸q))) z3),(World.putObj_heap_other (λe=>?_)).trans g4⟩
  grind
def belA(h:Nat):A->Bool
 |.ptr i _=>Nat.blt i h
 |.int _ _=>true
 |.bool _=>true
 |.rp _=>true
 |_=>false
theorem belA.take{ro:Nat->Prop}{σ:Sig}{w:World}{h:Nat}{a:A}{v:Value}(d:belA h a=true)(q:VR ro σ w a v):VR ro (σ.take h) w a v:=by
 cases a with
 |ptr i o=>
  simp only[VR]at q⊢;obtain⟨b,f,e⟩:=q;have:i<h:=by simpa[belA]using d
  exact⟨b,by rw[List.getElem?_take_of_lt this];exact f,e⟩
 |int k n=>exact q
 |bool b=>exact q
 |rp g=>exact q
 |_=>cases d
theorem belL.take{ro:Nat->Prop}{σ:Sig}{w:World}{h:Nat}:∀{la:List A} {l:List Value},la.all (belA h)=true->LR ro σ w la l->LR ro (σ.take h) w la l
 |[],l,_,q=>q
 |a::r,l,hb,q=>by
  simp only[LR]at q⊢;simp only[List.all_cons,XR]at hb;obtain⟨v,l',h1,h2,h3⟩:=q;exact⟨v,l',h1,belA.take hb.1 h2,belL.take hb.2 h3⟩
theorem Qi.extTake{fr ro ro':Nat->Prop}{w w':World}(h:Qi fr ro w ro' w'){σ σ':Sig}{n:Nat}(e:σ'.take n=σ.take n):Ext ro (σ.take n) w ro' σ' w':=
 ⟨(h.ext σ []).sub,(h.ext σ []).keep,(h.ext σ []).shape,λi b q=>by
  rw[<- e]at q;by_cases hi:i<n
  .rw[List.getElem?_take_of_lt hi]at q;exact q
  .rw[XJ (by simp;omega)]at q;cases q⟩
def QfA(h0:Nat)(fr ro:Nat->Prop)(σ:Sig)(w:World)(N:Nat)(ds:List Deferred)(Q0:Qx)(QD:Nat->FuncId->List A->Qx):Exit->Act->World->Prop:=
 λe a' w'=>Qan h0 fr ro σ w N ds Q0 e a' w'\/ ∃x env' H' ro' σ' fr' h1 f caps capv,ExR e x/\QD h1 f caps x env' H'/\Rel fr' ro' σ' H' env' N a' w'/\Qi fr ro w ro' w'/\σ'.take h0=σ.take h0/\h0<=h1/\
  LR ro' (σ'.take h1) w' caps capv/\Grow fr w ({target:=.fn (.func f) capv.toArray,args:= #[]}::ds) fr' a'.defers
def TCs(P:Program)(h0 N:Nat)(c:Code)(env:Env)(H:Qc)(Q0:Qx)(QD:Nat->FuncId->List A->Qx):Prop:=
 ∀fr ro σ a w,Rel fr ro σ H env N a w->(∀d∈a.defers,¬QgE d)->c.wpIn (WF none) 0 P (QfA h0 fr ro σ w N a.defers Q0 QD) a w
def SeqS(P:Program)(h0 N:Nat)(c:Code)(Q0:Qx)(QD:Nat->FuncId->List A->Qx):Qx
 |.normal,env,H=>TCs P h0 N c env H Q0 QD
 |.exit id,env,H=>Q0 (.exit id) env H
 |.ret,env,H=>Q0 .ret env H
section
variable {P:Program} {h0 N:Nat} {env env':Env} {H H':Qc} {Q0:Qx} {QD:Nat->FuncId->List A->Qx} {c c':Code}
theorem sqN(h:TCs P h0 N c env H Q0 QD):SeqS P h0 N c Q0 QD .normal env H:=h
theorem sqR(h:Q0 .ret env H):SeqS P h0 N c Q0 QD .ret env H:=h
theorem Grow.noReal{fr fr':Nat->Prop}{w:World}{ds ds':List Deferred}(h:Grow fr w ds fr' ds')(k:∀d∈ds,¬QgE d):∀d∈ds',¬QgE d:=λd hd=>by
 rcases h.ds d hd with q|⟨D,rfl,_⟩
 .exact k d q
 .rintro⟨fv,cap,e⟩;simp at e
theorem QfA.grow{fr g ro k:Nat->Prop}{σ σ1:Sig}{w s:World}{ds i:List Deferred}{e:Exit}{a':Act}{w':World}
  (h:QfA h0 g k σ1 s N i Q0 QD e a' w')(he:Qi fr ro w k s)(r:σ1.take h0=σ.take h0)(hg:Grow fr w ds g i):QfA h0 fr ro σ w N ds Q0 QD e a' w':=by
 rcases h with h|⟨x,j,H',m,σ',p,G,f,l,a,E,y,t,F,H,B,z,u⟩
 .exact .inl (h.grow he r hg)
 .refine .inr ⟨x,j,H',m,σ',p,G,f,l,a,E,y,t,he.trans (F.frMono hg.sub),H.trans r,B,z,?_⟩;have n:Grow fr w ({target:=.fn (.func f) a.toArray,args:= #[]}::ds) g ({target:=.fn (.func f) a.toArray,args:= #[]}::i):=by
   refine⟨hg.sub,hg.new,λd q=>?_,λd q=>?_⟩
   .rcases X0.1 q with rfl|q
    .simp
    .exact XZ _ (hg.kd d q)
   .rcases X0.1 q with rfl|q
    .simp
    .exact(hg.ds d q).imp (XZ _) id
  exact n.trans he.size u
theorem TCs.seq(h:TC P h0 N c env H (SeqS P h0 N c' Q0 QD)):TCs P h0 N (.seq c c') env H Q0 QD:=by
 intro u t σ a w r hn;refine wpIn_seq (Code.wpIn_mono ?_ (h none u t σ a w r Qav));rintro e p s ⟨x,d,H',f,σ',g,i,n,m,l,k,j⟩;cases e with
 |normal=>
  obtain rfl:x=.normal:=i;exact Code.wpIn_mono (λe a w q=>q.grow l k j) (n g f σ' p s m (j.noReal hn))
 |exit id=>
  obtain rfl:x=.exit id:=i;exact .inl ⟨_,d,H',f,σ',g,rfl,n,m,l,k,j⟩
 |ret=>
  obtain rfl:x=.ret:=i;exact .inl ⟨_,d,H',f,σ',g,rfl,n,m,l,k,j⟩
 |_=>exact i.elim
theorem TCs.defer{i h:Oper}{d id f:Nat}{caps:List A}(Y:OpV P i env H (.fn (.func f) [] caps))(Q:h0<=H.length)(R:caps.all (belA H.length)=true)
  (k:TC P H.length N c' (up env d (.fn (.func f) [] caps)) H (QD H.length f caps))
  (y:i.dst=some d:=by exact rfl)(hg1:Qs [i,h].toArray i env true:=by exact rfl)(hg2:Qs [i,h].toArray h (up env d (.fn (.func f) [] caps)) true:=by exact rfl)(hN:Nat.blt d N=true:=by exact rfl)
  (l:∃L,h.op=.defer ⟨.value (.tmp d), #[],L⟩:=by exact⟨_,rfl⟩)(hd2:h.dst=none:=by exact rfl):TCs P h0 N (.seq (.region id [i,h].toArray false) c') env H Q0 QD:=by
 intro fr m σ a w r hn;have G:d<N:=by simp_all
 have z:d<a.tmps.size:=by rw[r.size];exact G
 obtain⟨v,n,B⟩:=Y fr m σ N a w r;obtain⟨l1,g,rfl,F,p⟩:=B;obtain rfl:l1=[]:=F;obtain⟨L,l⟩:=l
 let a1:Act:={a with tmps:=a.tmps.setIfInBounds d (.func (.func f) #[] g.toArray)}
 let D0:Deferred:={target:=.fn (.func f) g.toArray,args:= #[]}
 have u:Rel fr m σ H (up env d (.fn (.func f) [] caps)) N a1 w:=⟨r.sim,VR.up (fr:=fr) r.env z ⟨[],g,rfl,rfl,p⟩,by simpa[a1]using r.size,r.defers⟩;have r2:Rel fr m σ H (up env d (.fn (.func f) [] caps)) N {a1 with defers:=D0::a.defers} w:=by
  refine⟨u.sim,u.env,u.size,List.nodup_cons.2 ⟨λq=>hn _ q ⟨_,_,rfl⟩,r.defers.1⟩,λd' j=>?_⟩;rcases X0.1 j with rfl|j
  .exact .inr ⟨_,_,rfl⟩
  .exact r.defers.2 d' j
 have X:a1.eval (.tmp d)=.func (.func f) #[] g.toArray:=by
  show(a.tmps.setIfInBounds d _).getD d undef=_
  simp_all
 have t:(execOp a1.eval h).run P w=.ok (.defer D0) w:=by
  simp[execOp,l,resolve,X,Deferred.ofValue,D0]
 refine wpIn_seq (wpIn_region_lit ?_);refine YQ (Yp hg1 r) n ?_;simp only[y,Act.put];unfold wpL wpListIn;rw[Vm (Yp hg2 u)];refine⟨λ_ _=>trivial,?_⟩;have hs:(h.semAt (WF none).round a1.eval).run P w=.ok (.defer D0) w:=by
  have e:h.semAt (WF none).round a1.eval=execOp a1.eval h:=rfl;rw[e];exact t
 rw[hs];show wpL P none [i,h].toArray (Exit.then (Code.wpIn (WF none) 0 P c' (QfA h0 fr m σ w N a.defers Q0 QD)) (QfA h0 fr m σ w N a.defers Q0 QD)) [] (Act.put {a1 with defers:=D0::a.defers} h.dst undef) w;simp only[hd2,Act.put];refine wpListIn_nil ?_;refine Code.wpIn_mono ?_ (k none fr m σ _ w r2 Qav);rintro e a' w' ⟨x,s,H',E,σ',J,W,z2,T,M,O,V⟩;refine .inr ⟨x,s,H',E,σ',J,H.length,f,caps,g,W,z2,T,M,?_,Q,?_,V⟩
 .have:=congrArg (List.take h0) O
  rwa [List.take_take,List.take_take,Xx Q]at this
 .have q:=(belL.take R p).mono (M.extTake O);exact belL.take R q
end
def RetD(P:Program)(h0:Nat)(Q:A->Qc->Prop)(h1:Nat)(f:FuncId)(caps:List A):Qx
 |.normal,env,H=>∃env' H' fD id l,Le h1 env H env' H'/\P.funcs[f]?=some fD/\fD.body=some (.region id (l:List Oper).toArray false)/\(∀args w,(callFunc f args).run P w=.ok (.enter f args) w)/\Nat.ble caps.length fD.ntmps=true/\WO P h0 fD.ntmps l.toArray l (Qa5 0 caps) H' (YM P h0 fD λ_ H=>Q (.tup []) H)
 |_,_,_=>False
theorem RetD.mk{P:Program}{h0:Nat}{Q:A->Qc->Prop}{h1:Nat}{f:FuncId}{caps:List A}{env env':Env}{H H':Qc}{fD:Func}{id:Nat}{l:List Oper}(hle:Le h1 env H env' H')(hf:P.funcs[f]?=some fD)(hb:fD.body=some (.region id l.toArray false))(eg:∀args w,(callFunc f args).run P w=.ok (.enter f args) w)(hN:Nat.ble caps.length fD.ntmps=true)
  (h:WO P h0 fD.ntmps l.toArray l (Qa5 0 caps) H' (YM P h0 fD λ_ H=>Q (.tup []) H)):RetD P h0 Q h1 f caps .normal env H:=⟨env',H',fD,id,l,hle,hf,hb,eg,hN,h⟩
theorem Qgg{P:Program}{f:FuncId}{fn:Func}{c:Code}{N:Nat}{args:List A}{H:Qc}{Q:A->Qc->Prop}
  (hf:P.funcs[f]?=some fn)(hb:fn.body=some c)(hN:fn.ntmps=N)(hA:Nat.ble args.length N=true)(hR:fn.results= #[])
  (h:TCs P H.length N c (Qa5 0 args) H (YM P H.length fn Q) (RetD P H.length Q)):C P f args H Q:=by
 intro fr ro σ vals w hs hl;have av:=hl.length;have ay:args.length<=N:=by simp_all
 refine(callsIn_wide (n:=0)).1 (callsIn_of_wp_marks hf hb trivial (Code.wpIn_mono ?_ (h fr ro σ _ w ⟨hs,?_,?_,List.nodup_nil,λd m=>by cases m⟩ (λd m=>by cases m))))
 .rintro e T B hp;have y:∀{σ':Sig},σ'.take H.length=σ.take H.length->σ'=σ++σ'.drop H.length:=by
   intro σ' ht;have e1:σ'.take H.length=σ:=by rw[ht,Vx (by rw[hs.len];omega)]
   grind[List.take_append_drop]
  rcases hp with⟨x,Y,H1,ab,σ1,G,V,h2,h3,h4,h5,h6⟩|⟨x,Y,H1,ab,σ1,G,hh,g,L,a,V,h2,h3,h4,h5,h8,h7,h6⟩
  .have ai:(∃k H' r,Le H.length Y H1 k H'/\Qa7 P fn k H' r/\Q r H')->LeavesInM Fence.wide 0 P fn T.tmps (λe B=>
     ∃v' r H' p τ,e=.returned v'/\Q r H'/\Sim fr p (σ++τ) H' B/\VR p (σ++τ) B r v'/\Qi fr ro w p B) T.defers .returning B:=by
    rintro⟨k,H',r,ac,hr,hq⟩;obtain⟨p,σ',u,z,ht⟩:=ac G ab σ1 N T B h3;have hσ:=y (ht.trans h5);have s1:Sim fr p σ' H' B:=u.sim.frMono h6.sub;refine YW (ro:=p) (fr:=fr) (σ:=σ') (H:=H') T.defers B u.defers.1 (λd m=>?_) s1 (λM s2 J=>?_)
    .obtain⟨D,rfl,q'⟩:=(h6.ds d m).resolve_left (by simp);obtain⟨F,W⟩:=u.defers.mark m;exact⟨D,rfl,λq=>u.sim.roFr D q F,λq=>(by have:=hs.frLt D q;omega),λi x q1 q2 q3=>(u.sim.own i D x q1 q2 q3).2.2 F,λi d x q1 q2 q3=>(u.sim.hid i d x D q1 q2 q3).fr F,W⟩
    .have ar:Rel fr p σ' H' k N {T with defers:=[]} M:=⟨s2,λs=>(u.env s).mono (by have:=J.ext σ' [];grind),u.size,List.nodup_nil,λd m=>by cases m⟩;obtain⟨v,e1,e2⟩:=hr fr p σ' N _ M ar;exact⟨v,e1,v,r,H',p,σ'.drop H.length,rfl,hq,hσ▸s2,hσ▸e2,(h4.trans (QS z)).trans J⟩
   cases e with
   |normal=>
    obtain rfl:x=.normal:=V;exact ai h2
   |ret=>
    obtain rfl:x=.ret:=V;exact ai h2
   |exit id=>
    obtain rfl:x=.exit id:=V;exact h2.elim
   |_=>exact V.elim
  .cases e with
   |normal=>
    obtain rfl:x=.normal:=V;obtain⟨k,H',fD,id,l,ac,gf,gb,eg,gN,hw⟩:=h2;obtain⟨t,σ2,r2,z,ht⟩:=ac G ab σ1 N T B h3;have ao:LR t σ2 B L a:=by
     rw[<- ht]at h7;exact h7.mono ⟨z,λ_ _=>rfl,λ_ _ q=>q,λi b q=>by
      by_cases hi:i<hh
      .rw[List.getElem?_take_of_lt hi]at q;exact q
      .rw[XJ (by simp;omega)]at q;cases q⟩
    have aq:σ2.take H.length=σ.take H.length:=by
     have:=congrArg (List.take H.length) ht;rw[List.take_take,List.take_take,Xx h8]at this;exact this.trans h5
    have al:∀b,fr b->G b:=h6.sub;have an:({target:=.fn (.func g) a.toArray,args:= #[]}:Deferred)∈T.defers:=h6.kd _ (by simp);have O:∀d∈T.defers,d={target:=.fn (.func g) a.toArray,args:= #[]}\/ ∃D,d={target:=.collected D,args:= #[]}/\w.heap.size<=D/\G D/\B.heap[D]?=some (.deferred (some [])):=λd m=>by
     rcases h6.ds d m with q|⟨D,rfl,q⟩
     .exact .inl (by simpa using q)
     .obtain⟨F,W⟩:=r2.defers.mark m;exact .inr ⟨D,rfl,q,F,W⟩
    have ak:=r2.defers.1;obtain⟨A1,B1,aj⟩:=List.append_of_mem an;rw[aj]at ak O;show LeavesInM Fence.wide 0 P fn T.tmps _ T.defers .returning B;rw[aj];obtain⟨n1,n2,n3⟩:=List.nodup_append.1 ak;obtain⟨n4,n5⟩:=List.nodup_cons.1 n2
    let frA:Nat->Prop:=λb=>G b/\ ∀D,({target:=.collected D,args:= #[]}:Deferred)∈A1->b≠D
    have cond:∀{frX frY roX:Nat->Prop} {σX:Sig} {HX:Qc} {wX:World},Sim frX roX σX HX wX->∀D,frX D->¬frY D->wX.heap[D]?=some (.deferred (some []))->
      ∃D',({target:=.collected D,args:= #[]}:Deferred)={target:=.collected D',args:= #[]}/\ ¬roX D'/\ ¬frY D'/\(∀(i:Nat) (x:Blk),σX[i]?=some (some D')->HX[i]?=some x->x.live=true->False)/\(∀(i d:Nat) (x:Blk),σX[i]?=some (some d)->HX[i]?=some x->Hid wX x d D'->False)/\wX.heap[D']?=some (.deferred (some [])):=
     λs D F W g3=>⟨D,rfl,λq=>s.roFr D q F,W,λi x q1 q2 q3=>(s.own i D x q1 q2 q3).2.2 F,λi d x q1 q2 q3=>(s.hid i d x D q1 q2 q3).fr F,g3⟩
    refine Qcz (ro:=t) (fr:=frA) (σ:=σ2) (H:=H') A1 B n1 (λd m=>?_) (r2.sim.frMono λb q=>q.1) (λM s2 J=>?_)
    .rcases O d (List.mem_append_left _ m)with rfl|⟨D,rfl,g0,F,W⟩
     .exact absurd rfl (n3 _ m _ (by simp))
     .exact cond r2.sim D F (λq=>q.2 D m rfl) W
    have am:Ext t σ2 B t σ2 M:=by have:=J.ext σ2 [];grind
    have X:=ao.mono am;have az:=X.length;have ax:L.length<=fD.ntmps:=XM gN;have rD:Rel frA t σ2 H' (Qa5 0 L) fD.ntmps {tmps:=a.toArray++Array.replicate (fD.ntmps-a.toArray.size) undef,defers:=[]} M:=by
     refine⟨s2,λs=>?_,?_,List.nodup_nil,λd m=>by cases m⟩
     .have:=Qbi (i:=0) [] rfl X (Array.replicate (fD.ntmps-a.toArray.size) undef) s
      grind
     .grind
    have aa:CallsDIn Fence.wide 0 P g a.toArray .returning M λe u' E=>u'=.returning/\ ∃v,e=.returned v/\ ∃H3 j σ3,Q (.tup []) H3/\Sim frA j σ3 H3 E/\Qi frA t M j E/\σ3.take H.length=σ2.take H.length:=by
     refine callsDIn_of_wp (R:=λe E=>∃v,e=.returned v/\ ∃H3 j σ3,Q (.tup []) H3/\Sim frA j σ3 H3 E/\Qi frA t M j E/\σ3.take H.length=σ2.take H.length) gf gb trivial (wpIn_region_lit (Q3 ?_ _ _ _ (hw none frA t σ2 _ M rD Qav)));rintro e a3 E ⟨x,af,H3,j,σ3,ag,z1,z2,z3,z4,z5,z6,z7⟩;have fin:(∃k H' r,Le H.length af H3 k H'/\Qa7 P fD k H' r/\Q (.tup []) H')->a3.defers=[]/\ ∃v,(results fD a3.tmps).run P E=.ok v E/\ ∃v',Ending.returned v=.returned v'/\ ∃H3 j σ3,Q (.tup []) H3/\Sim frA j σ3 H3 E/\Qi frA t M j E/\σ3.take H.length=σ2.take H.length:=by
      rintro⟨aw,H4,r4,y1,y2,y3⟩;obtain⟨ad,σ4,ah,y4,y5⟩:=y1 ag j σ3 _ a3 E z3;obtain⟨v,e1,e2⟩:=y2 ag ad σ4 _ a3 E ah;exact⟨z6,v,e1,v,rfl,H4,ad,σ4,y3,ah.sim.frMono z7.sub,z4.trans (QS y4),y5.trans z5⟩
     cases e with
     |normal=>
      obtain rfl:x=.normal:=z1;exact fin z2
     |ret=>
      obtain rfl:x=.ret:=z1;exact fin z2
     |exit id=>
      obtain rfl:x=.exit id:=z1;exact z2.elim
     |_=>exact z1.elim
    refine⟨(by simp),.inr ⟨(λh=>by simp[Fence.wide]at h),.func g,a.toArray,g,a.toArray,rfl,?_,λ_ _=>trivial,aa.mono ?_⟩⟩
    .have:=eg (#[]++a.toArray) M;simpa[invoke]using this
    rintro e u' E ⟨rfl,v,rfl,H3,j,σ3,y1,s3,ae,y4⟩;have hσ:=y (y4.trans aq);refine YW (ro:=j) (fr:=fr) (σ:=σ3) (H:=H3) B1 E n5 (λd m=>?_) (s3.frMono λb q=>⟨al b q,λD hD e=>?_⟩) (λw4 s4 au=>?_)
    .rcases O d (List.mem_append_right _ (XZ _ m))with rfl|⟨D,rfl,g0,F,W⟩
     .exact absurd m n4
     .have gA:frA D:=⟨F,λD' hD' e=>by subst e;exact n3 _ hD' _ (XZ _ m) rfl⟩;exact cond s3 D gA (λq=>by have:=hs.frLt D q;omega) ((ae.keepFr D gA).trans ((J.keepFr D gA).trans W))
    .rcases O _ (List.mem_append_left _ hD)with q'|⟨D',e',g0,_⟩
     .simp at q'
     .have:D=D':=by simpa using e'
      have:=hs.frLt b q;omega
    .have ev:Qi fr ro w j w4:=((h4.trans (QS z)).trans ((J.trans ae).frMono λb q=>⟨al b q,λD hD e=>by
      rcases O _ (List.mem_append_left _ hD)with q'|⟨D',e',g0,_⟩
      .simp at q'
      .have:D=D':=by simpa using e'
       have:=hs.frLt b q;omega⟩)).trans au
     exact⟨.tuple #[],by simp[results,hR],.tuple #[],.tup [],H3,j,σ3.drop H.length,rfl,y1,hσ▸s4,⟨[],rfl,rfl⟩,ev⟩
   |ret=>
    obtain rfl:x=.ret:=V;exact h2.elim
   |exit id=>
    obtain rfl:x=.exit id:=V;exact h2.elim
   |_=>exact V.elim
 .intro s;have:=Qbi (i:=0) [] rfl hl (Array.replicate (fn.ntmps-vals.toArray.size) undef) s
  grind
 grind
section
variable {P:Program} {o:Oper} {env:Env} {H:Qc} {h0 N:Nat} {Q:Qx}
theorem Qgb{α:Type}{T E i k:Nat}{u:TypeId}{x:Operand}{l:List α}(z:P.underlying T=some (.slice E))(s:o.op=.binOp .eql T x (.const (.slice none 0 0)) u)(n:opA env x=.osl i 0 l.length k):
  OpE P o env H (λv H'=>∃b:Bool,v=.bool b/\(l≠[]->b=false)/\H'=H):=by
 intro B q σ N a w r;have g:=Ql r x;rw[n]at g;obtain⟨e,d,g,F⟩:∃e d,a.eval x=.slice e l.length d/\(l≠[]->e.isNone=false):=by
  rcases g with⟨j,f⟩|⟨b,p,d,t,m,_,f,_⟩
  .exact⟨none,0,by rw[f,j],λh=>absurd (List.eq_nil_of_length_eq_zero j) h⟩
  .exact⟨_,d,f,λ_=>rfl⟩
 refine⟨.bool e.isNone,H,.bool e.isNone,w,q,[],⟨e.isNone,rfl,λh=>?_,rfl⟩,?_,rfl,by simpa using r.sim,Qi.refl _ _ _⟩
 .grind
 .have y:a.eval (.const (.slice none 0 0))=.slice none 0 0:=rfl
  grind[eqGuard,execOp,Sem.run_bind,Result.andThen,Go.run_eql_slice_nil,Sem.run_pure]
theorem Qha{α:Type}{T E i k d:Nat}{u:TypeId}{x:Operand}{l:List α}{all:Array Oper}{L:List Oper}(e:P.underlying T=some (.slice E))(f:opA env x=.osl i 0 l.length k)
  (g:∀b,(l≠[]->b=false)->WO P h0 N all L (up env d (.bool b)) H Q)
  (a:o.op=.binOp .eql T x (.const (.slice none 0 0)) u:=by exact rfl)(hg:Qs all o env true:=by exact rfl)(hd:o.dst=some d:=by exact rfl)(hN:Nat.blt d N=true:=by exact rfl)(hh:Nat.ble h0 H.length=true:=by exact rfl):WO P h0 N all (o::L) env H Q:=by
 refine Qf3 (by simp_all) hg hd hN (Qgb e a f) ?_
 grind
end
mutual
def roFree:A->Bool
 |.rp _=>false
 |.rsl _ _=>false
 |.agg cs=>QaA cs
 |.fn _ a c=>QaA a&&QaA c
 |.iface _ v=>roFree v
 |.tup vs=>QaA vs
 |_=>true
def QaA:List A->Bool
 |[]=>true
 |a::r=>roFree a&&QaA r
end
mutual
theorem VR.roFree{ro ro':Nat->Prop}{σ:Sig}{w:World}:∀{a:A} {v:Value},Go.Sw.roFree a=true->VR ro σ w a v->VR ro' σ w a v
 |.any,_,_,_=>trivial
 |.bool _,_,_,h=>h
 |.int _ _,_,_,h=>h
 |.str _,_,_,h=>h
 |.nilp,_,_,h=>h
 |.ptr _ _,_,_,h=>h
 |.rp _,_,hs,_=>by simp[Go.Sw.roFree]at hs
 |.nils,_,_,h=>h
 |.rsl _ _,_,hs,_=>by simp[Go.Sw.roFree]at hs
 |.osl _ _ _ _,_,_,h=>h
 |.agg cs,v,hs,h=>by
  simp only[VR,Go.Sw.roFree]at h hs⊢;obtain⟨l,h1,h2⟩:=h;exact⟨l,h1,LR.roFree hs h2⟩
 |.fn f a c,v,hs,h=>by
  simp only[VR,Go.Sw.roFree,XR]at h hs⊢;obtain⟨l,l',h1,h2,h3⟩:=h;exact⟨l,l',h1,LR.roFree hs.1 h2,LR.roFree hs.2 h3⟩
 |.nilf,_,_,h=>h
 |.iface t a,v,hs,h=>by
  simp only[VR,Go.Sw.roFree]at h hs⊢;obtain⟨x,h1,h2⟩:=h;exact⟨x,h1,VR.roFree hs h2⟩
 |.nilif,_,_,h=>h
 |.map _,_,_,h=>h
 |.nilm,_,_,h=>h
 |.tup vs,v,hs,h=>by
  simp only[VR,Go.Sw.roFree]at h hs⊢;obtain⟨l,h1,h2⟩:=h;exact⟨l,h1,LR.roFree hs h2⟩
theorem LR.roFree{ro ro':Nat->Prop}{σ:Sig}{w:World}:∀{cs:List A} {l:List Value},QaA cs=true->LR ro σ w cs l->LR ro' σ w cs l
 |[],_,_,h=>h
 |a::r,l,hs,h=>by
  simp only[LR,QaA,XR]at h hs⊢;obtain⟨v,l',h1,h2,h3⟩:=h;exact⟨v,l',h1,VR.roFree hs.1 h2,LR.roFree hs.2 h3⟩
end
inductive Qhb:Blk->Blk->Prop
 |kc (t:Nat) (cs:List A) (h:QaA cs=true):Qhb (.cells t cs) (.cells t cs)
 |mp (es:List (A×A)):Qhb (.fmap es) (.map es)
inductive Qej:Qc->Qc->Prop
 |nil:Qej [] []
 |cons {x y:Blk} {r s:Qc} (h:Qhb x y) (k:Qej r s):Qej (x::r) (y::s)
theorem Qej.len{a b:Qc}(h:Qej a b):a.length=b.length:=by induction h<;>simp_all
theorem Qej.at{a b:Qc}(h:Qej a b):∀{i:Nat} {y:Blk},b[i]?=some y->∃x,a[i]?=some x/\Qhb x y:=by
 induction h with
 |nil=>intro i y q;simp at q
 |cons h k d=>
  intro i y q;cases i with
  |zero=>exact⟨_,rfl,by simp at q;exact q▸h⟩
  |succ i=>simpa using d (by simpa using q)
theorem Qhb.live{x y:Blk}(h:Qhb x y):y.live=true:=by cases h<;>rfl
theorem Qkd{β:Type}{P:Program}{f:FuncId}{args:List A}{Hf H:Qc}{T:β->A}{r:β}(L:Qej Hf H)(hC:Csm P f args Hf T r)(hs:QW (T r)=true):Csm P f args H T r:=by
 intro W R σ vals w s hl;have G:σ.length=Hf.length:=s.len.trans L.len.symm
 let lent:Nat->Prop:=λb=>∃(i:Nat) (u:List (A×A)),σ[i]?=some (some b)/\H[i]?=some (.map u)
 have a:∀b,lent b->b<w.heap.size/\ ¬R b/\ ¬W b:=λb ⟨i,u,d,g⟩=>s.own i b _ d g rfl
 let roF:Nat->Prop:=λb=>R b\/lent b
 have E:Ext R σ w roF σ w:=⟨λ_ q=>.inl q,λ_ _=>rfl,λ_ _ q=>q,λ_ _ q=>q⟩;have sF:Sim W roF σ Hf w:=by
  refine⟨G,s.roOk.to (λ_ q=>.inl q) (λ_ _=>rfl) (λb q=>q.elim (s.roLt b) λq=>(a b q).1),s.frLt,λb q=>q.elim (s.roFr b) λq=>(a b q).2.2,λi b x d g F=>?_,λi j b x y d g F h4 h5 h6=>?_,λi o x d g=>?_,λi b x c d g F=>?_⟩
  all_goals
   have M:∀{i:Nat} {x:Blk},Hf[i]?=some x->∃y,H[i]?=some y/\Qhb x y:=λ{i x} q=>by
    have:i<H.length:=by rw[<- L.len];exact(XG.1 q).1
    obtain⟨x',k,m⟩:=L.at (XF this);rw[q]at k;cases k;exact⟨_,XF this,m⟩
  .obtain⟨y,k,m⟩:=M g;obtain⟨X,p2,V⟩:=s.own i b y d k m.live;refine⟨X,λq=>q.elim p2 ?_,V⟩;rintro⟨j,u,z1,z2⟩;have:=s.inj i j b _ _ d z1 k z2 m.live rfl;subst this;rw[k]at z2;cases z2;cases m;cases F
  .obtain⟨y1,k,m⟩:=M F;obtain⟨y2,q3,q4⟩:=M h4;exact s.inj i j b _ _ d g k q3 m.live q4.live
  .obtain⟨y,k,m⟩:=M g;have B:=s.blk i o y d k;cases m with
   |kc t cs h=>exact B.keep E (λ_ _ _=>rfl) (λ_ _ _ _=>rfl)
   |mp u=>
    cases o with
    |none=>exact B.elim
    |some b=>
     obtain⟨l,n,O,Q,N⟩:=B;exact⟨.inr ⟨i,u,d,k⟩,l,n,O,Q.mono ⟨λ_ q=>.inl q,λ_ _=>rfl,λ_ _ q=>q,λ_ _ q=>q⟩,N⟩
  .obtain⟨y,k,m⟩:=M g;cases m<;>exact F.elim
 refine Calls.mono (hC W roF σ vals w sF (hl.mono E)) ?_;rintro e w' ⟨v,r',H1,aa,τ,rfl,⟨rfl,rfl⟩,J,hv,ev⟩;have hτ:τ=[]:=by
  have:=J.len;rw[XX,G]at this;exact List.eq_nil_of_length_eq_zero (by omega)
 subst hτ;rw[Va]at J hv
 let ro2:Nat->Prop:=λb=>aa b/\ ¬lent b
 have p:∀b,R b->ro2 b:=λb q=>⟨ev.sub b (.inl q),λq'=>(a b q').2.1 q⟩;have Y:∀b,lent b->w'.heap[b]?=w.heap[b]? :=λb q=>ev.keepRo b (.inr q);refine⟨v,_,H,ro2,[],rfl,⟨rfl,rfl⟩,?_,?_,⟨p,λb q=>ev.keepRo b (.inl q),ev.keepFr,ev.size,ev.shape,ev.os,ev.tape,ev.output,ev.drawn⟩⟩
 .rw[Va];refine⟨s.len,s.roOk.to p (λb q=>ev.keepRo b (.inl q)) (λb q=>J.roLt b q.1),J.frLt,λb q=>J.roFr b q.1,λi b y d g F=>?_,s.inj,λi o y d g=>?_,λi b y c d g F=>?_⟩
  .obtain⟨x,k,m⟩:=L.at g;cases m with
   |kc t cs h=>
    obtain⟨X,p2,V⟩:=J.own i b _ d k rfl;exact⟨X,λq=>p2 q.1,V⟩
   |mp u=>
    have q:lent b:=⟨i,u,d,g⟩;exact⟨X9 (a b q).1 ev.size,λz=>z.2 q,(a b q).2.2⟩
  .obtain⟨x,k,m⟩:=L.at g;cases m with
   |kc t cs h=>
    have B:=J.blk i o _ d k;cases o with
    |none=>exact B
    |some b=>
     obtain⟨l,O,Q,N⟩:=B;exact⟨l,O,Q.roFree h,N⟩
   |mp u=>
    have B:=s.blk i o _ d g;cases o with
    |none=>exact B
    |some b=>
     obtain⟨l,n,O,Q,N⟩:=B;exact⟨l,n,(Y b ⟨i,u,d,g⟩).trans O,Q.mono ⟨p,λb q=>ev.keepRo b (.inl q),ev.shape,λ_ _ q=>q⟩,N⟩
  .obtain⟨x,k,m⟩:=L.at g;cases m<;>exact F.elim
 .exact hv.scalar hs
theorem QaD{P:Program}{o:Oper}{env:Env}{H:Qc}{t E n j:Nat}{x y:Operand}{l:List A}{k:IntKind}{i:Int}{v:A}(f:(i==j)=true)(q:l[j]?=some v)(J:Nat.blt j n=true)(B:∀w,(underlying t).run P w=.ok (.array n E) w)(F:∀w,(isAgg E).run P w=.ok false w)(G:∀w,(Go.sizeOf E).run P w=.ok 1 w)
  (s:o.op=.index t x y:=by exact rfl)(hx:opA env x=.agg l:=by exact rfl)(hy:opA env y=.int k i:=by exact rfl):OpV P o env H v:=by
 intro R Q σ N a w r;have d:=Ql r x;rw[hx]at d;obtain⟨m,d,M⟩:=d;have L:=QH r hy;have e:i=(j:Int):=by simpa using f
 subst e;have g:(j:Int)<n:=by simpa using J
 have z:(0:Int)<=(j:Int):=by omega
 obtain⟨u,p,O⟩:=M.get _ q;refine⟨u,?_,O⟩;generalize a.eval=ρ at*;simp[s,d,L,Instr.index,B,z,g,G,F,p,go_sem];intro h;omega
abbrev Ea:=@Ev.bind
abbrev Ec:=@FzH.keep
abbrev Ed:=@FzL.cons
abbrev Ee:=@FzA.refl
abbrev Ef:=@PL.cons
abbrev Eg:=@DS.done
abbrev Eh:=@Ev.and
abbrev Ei:=@EvI.done
abbrev Ej:=@FzL.refl
abbrev Ek:=@OpH.lit
abbrev El:=@Le.trans
abbrev Em:=@ZR.int
abbrev En:=@FzA.o
abbrev Eo:=@Le.phantom
abbrev Ep:=@EvI.cont
abbrev Er:=@OpU.store
abbrev Et:=@OpV.load
theorem Zf.{u,v}{α:Sort u}{β:Sort v}{f:α->β}:∀x,f x=f x:=λ_=>rfl
abbrev Ze.{u,v}{α:Sort u}{β:Type v}:α->List β:=λ_=>[]
end Go.Sw
