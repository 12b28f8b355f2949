/- The rules by which the code is walked, with what they rest on (part 3). -/
import Derived.Test.YtmaeahbcmjpfpaaGreatL2
import Derived.Shelf.Spec.SlicesInsertGrow
import Derived.RangeFuncLeaves
set_option linter.unusedVariables false
set_option linter.unusedSectionVars false
set_option linter.unusedSimpArgs false
namespace Go.Sw
open Option renaming none→AF,some→AC
open Bool renaming false→AD,true→AE
open Decidable renaming decide→AG
open Go renaming Oper→AM,Program→AK,Value→AL,World→AJ
section
variable {T:Type}
def S6:AA T->T->AA T->Prop:=λl x rem=>l=x::rem
def SS{S T B:Type}(step:S->T->AB (CJ S B)):AA T->S->AB (CJ S B)
 |[],s=>AC (.k s)
 |x::l,s=>(step s x).bind λd=>match d with
  |.k s'=>SS step l s'
  |.d b=>AC (.d b)
def OO{S T B:Type}(step:S->AB (AA T×CJ S B)):Nat->S->AB (AA T×B)
 |0,_=>AF
 |n+1,s=>(step s).bind λp=>match p.2 with
  |.k s'=>(OO step n s').bind λq=>AC (p.1++q.1,q.2)
  |.d b=>AC (p.1,b)
variable {B S:Type}
def mh(h1:Nat)(env:Env)(Q:Qx)(d:CJ S B)(Hp:S->Qb):Qx
 |.normal,env',H'=>∃s,d=.k s/\Le h1 env' H' [] (Hp s)
 |.exit id,env',H'=>(∃b,d=.d b)/\ ∃H2,Le h1 env' H' [] H2/\Q (.exit id) env H2
 |.ret,env',H'=>(∃b,d=.d b)/\ ∃H2,Le h1 env' H' [] H2/\Q .ret env H2
variable {Hp:S->Qb}{Q:Qx}{env env':Env}
theorem tU{B:Type}{h1:Nat}{H':Qb}{s:S}{d:CJ S B}(e:AC (CJ.k s)=AC d)(h:Le h1 env' H' [] (Hp s)):mh h1 env Q d Hp .normal env' H':=⟨s,(Oi e).symm,h⟩
theorem tV{B:Type}{h1:Nat}{H' H2:Qb}{b:B}{d:CJ S B}(e:AC (CJ.d b)=AC d)(h:Le h1 env' H' [] H2)(q:Q .ret env H2):mh h1 env Q d Hp .ret env' H':=⟨⟨b,(Oi e).symm⟩,H2,h,q⟩
variable {H:Qb}{s0:S}
theorem vx{P:AK}{h0 N:Nat}{E:Operand}{ps:AA Nat}{assign body:Code}{f:FuncId}{caps g:AA A}{Hc:Qb}{T B:Type}{enc:T->AA A}{xs:AA T}{step:S->T->AB (CJ S B)}{D:CJ S B}
  (π:AA Nat)(Hp:S->Qb)(h:SS step xs s0=AC D)(y:SM P f g Hc enc S6 xs)(F:∀x,(enc x).length=ps.length)(W:∀args w,(callFunc f args).run P w=.ok (.enter f args) w)
  (hh:Nat.ble h0 H.length=AE)(hg:CS env E=.fn (.func f) [] caps)(hargs:caps=Jg (Cu π H.length) g)(hH:π.map (λp=>H[p]?)=(Hc.map (Q4 (Cu π H.length))).map AC)(hπ:π.Nodup)(G:(ps.all λp=>Nat.blt p N)=AE)
  (j:Le H.length env (SX H π) env (Hp s0))
  (m:∀s x d,step s x=AC d->(∀b,d=.d b->D=.d b)->TC P H.length N assign (eG ps (enc x) env) (Hp s) λe env1 H1=>e=.normal/\TC P H.length N body env1 H1 (mh H.length env Q d Hp))
  (t:∀s,D=.k s->Q .normal env (Hp s)):TC P h0 N (.rangeFunc E ps.toArray assign body) env H Q:=by
 refine TC.rangeFunc π Hp (λs l=>SS step l s=AC D) s0 (by simp_all) hg hargs hH hπ G W y F j h ?_ ?_
 .rintro s l x rem L rfl;obtain⟨d,R,L⟩:=Yf L;refine(m s x d R ?_).mono ?_
  .grind
  .rintro e env1 H1 ⟨V,X⟩;refine⟨V,X.mono ?_⟩;intro Y M H2 q;cases Y with
   |normal=>
    obtain⟨O,rfl,j⟩:=q;exact⟨Hp O,j,O,L,rfl⟩
   |exit id=>
    obtain⟨_,H3,J,q⟩:=q;exact⟨H3,J,q⟩
   |ret=>
    obtain⟨_,H3,J,q⟩:=q;exact⟨H3,J,q⟩
 .intro s hs;exact t s (Oi hs).symm
section
variable {T:Type} {X:Fy T} {P:AK} {h0 N:Nat} {c:Code} {env:Env} {H:Qb} {st:HT T} {Q:YD T}
def eX(h0:Nat)(E:S->Env)(Hp:S->Qb)(d:CJ S B)(rest:AA T)(Q:YD T):YD T
 |.normal,env,H,st=>∃s,d=.k s/\Le h0 env H (E s) (Hp s)/\st=.on rest
 |.exit id,env,H,st=>Q (.exit id) env H st
 |.ret,env,H,st=>Q .ret env H st
theorem QmH{B:Type}{step:S->AB (AA T×CJ S B)}{E:S->Env}{m:Nat}{y rem:AA T}{b:B}(h:OO step m s0=AC (y,b))(M:Le h0 env H (E s0) (Hp s0))
  (body:∀s zs d rest,step s=AC (zs,d)->(∀b',d=.d b'->b'=b/\rest=rem)->C5 X P h0 N c (E s) (Hp s) (.on (zs++rest)) (eX h0 E Hp d rest Q)):C5 X P h0 N (.loop c) env H (.on (y++rem)) Q:=by
 refine vy (I:=λn env H J=>∃s f,OO step n s=AC (f,b)/\J=.on (f++rem)/\Le h0 env H (E s) (Hp s)) ?_ ⟨s0,y,h,rfl,M⟩;rintro n env H J ⟨s,f,g,rfl,G⟩;cases n with
 |zero=>cases g
 |succ n=>
  obtain⟨⟨zs,d⟩,hs,g⟩:=Yf g;refine C5.le G ?_;cases d with
  |k L=>
   obtain⟨⟨V,W⟩,O,g⟩:=Yf g;cases g;rw[Vl];refine(body s zs (.k L) (V++rem) hs (λb' e=>by cases e)).mono ?_;rintro x j H' F q;cases x with
   |normal=>
    obtain⟨R,e,t,rfl⟩:=q;cases e;exact⟨n,Xn n,_,_,O,rfl,t⟩
   |exit id=>exact q
   |ret=>exact q
  |d b'=>
   cases g;refine(body s _ (.d b) rem hs (λb' e=>by cases e;exact⟨rfl,rfl⟩)).mono ?_;rintro x j H' F q;cases x with
   |normal=>obtain⟨R,e,_⟩:=q;cases e
   |exit id=>exact q
   |ret=>exact q
def N2(X:Fy T)(P:AK)(h0 N:Nat):AA Kf->YD T->YD T
 |[],Q=>Q
 |.seq c::k,Q=>d7 X P h0 N c (N2 X P h0 N k Q)
 |.blo id::k,Q=>Zl id (N2 X P h0 N k Q)
 |.unr c::k,Q=>λ_ _ _ _=>False
@[reducible] def UQ(X:Fy T)(P:AK)(h0 N:Nat):Cf->AA Kf->Env->Qb->HT T->YD T->Prop
 |.code c,k,env,H,st,Q=>C5 X P h0 N c env H st (N2 X P h0 N k Q)
 |.ops all l,k,env,H,st,Q=>Fw X P h0 N all l env H st (N2 X P h0 N k Q)
 |.out x,k,env,H,st,Q=>N2 X P h0 N k Q x env H st
def rS:Cf->AA Kf->Bool
 |.code (.loop _),_=>AD
 |.out _,.unr _::_=>AD
 |_,_=>AE
theorem Qnt{Tx:GL}(j:I3 P Tx){c f:Cf}{k d:AA Kf}{H':Qb}(h:Z' Tx h0 N c k env H=AC (f,d,env',H'))(hn:rS c k=AE)(g:UQ X P h0 N f d env' H' st Q):UQ X P h0 N c k env H st Q:=by
 unfold Z' at h;split at h
 .cases h;exact C5.seq g
 .cases h;exact C5.block g
 .cases hn
 .cases h;exact C5.skip g
 .cases h;exact C5.ret g
 .cases h;exact C5.exit g
 .cases h;exact C5.region g
 .grind[C5.cond,QO]
 .cases h;exact Fw.nil g
 .split at h
  .rename_i q;cases h;exact Fw.step (mw j q (WO.nil ⟨rfl,g⟩))
  .cases h
 .cases h;exact g
 .cases h;exact g
 .cases h;exact g
 .cases h;exact g
 .split at h
  .rename_i q;have e:=XR q;show(bif Nat.beq _ _ then _ else _)
   grind
  .show(bif Nat.beq _ _ then _ else _)
   grind
 .cases h;exact g
 .cases hn
 .cases hn
 .cases hn
 .cases h
def Z3(Tx:GL)(h0 N:Nat):Nat->Cf->AA Kf->Env->Qb->AB (Cf×AA Kf×Env×Qb)
 |0,c,k,env,H=>AC (c,k,env,H)
 |n+1,c,k,env,H=>match rS c k with
  |true=>(match Z' Tx h0 N c k env H with
   |some (c',k',env',H')=>Z3 Tx h0 N n c' k' env' H'
   |none=>AF)
  |false=>AF
theorem jK{Tx:GL}(hT:I3 P Tx):∀(n:Nat) {c c':Cf} {k k':AA Kf} {env env':Env} {H H':Qb},Z3 Tx h0 N n c k env H=AC (c',k',env',H')->UQ X P h0 N c' k' env' H' st Q->UQ X P h0 N c k env H st Q
 |0,c,c',k,k',env,env',H,H',h,g=>by cases h;exact g
 |n+1,c,c',k,k',env,env',H,H',h,g=>by
  unfold Z3 at h;split at h
  .rename_i hn;split at h
   .rename_i e;exact Qnt hT e hn (jK hT n h g)
   .cases h
  .cases h
theorem C5.lf{k:AA Kf}(h:TC P h0 N c env H (λx env H=>N2 X P h0 N k Q x env H st)):C5 X P h0 N c env H st (N2 X P h0 N k Q):=C5.lift h
theorem Fw.y1{all:Array AM}{o:AM}{r:AA AM}{d:Nat}{x:T}{l:AA T}{e:T->A}{y z:Operand}{f:Array TypeId}(hE:X.enc=λx=>[e x])(h:X.nx=S6)(g:o.op=.call {callee:=.value y,args:= #[z],argTypes:=f})(j:CS env y=.fn (.yield X.l) [] [])(m:CS env z=e x)(hs:Yn (e x)=AE)
  (q:Fw X P h0 N all r (up env d (.bool AE)) H (.on l) Q)(t:Fw X P h0 N all r (up env d (.bool AD)) H (.off l) Q)(hg:QB all o env true:=by rfl)(hd:o.dst=AC d:=by rfl)(hNd:Nat.blt d N=true:=by rfl):Fw X P h0 N all (o::r) env H (.on (x::l)) Q:=by
 refine Fw.yield (by rw[h];rfl) hg hd hNd ?_ ?_
 .rw[hE];exact uY g j m hs
 grind
theorem r8{all:Array AM}{o:AM}{r:AA AM}{d:Nat}{x:T}{l:AA T}{h q:T->A}{y B t:Operand}{G:Array TypeId}(hE:X.enc=λx=>[h x,q x])(J:X.nx=S6)(E:o.op=.call {callee:=.value y,args:= #[B,t],argTypes:=G})(F:CS env y=.fn (.yield X.l) [] [])(j:CS env B=h x)(f:CS env t=q x)(g:Yn (h x)=AE)(m:Yn (q x)=AE)
  (L:Fw X P h0 N all r (up env d (.bool AE)) H (.on l) Q)(M:Fw X P h0 N all r (up env d (.bool AD)) H (.off l) Q)(hg:QB all o env true:=by rfl)(hd:o.dst=AC d:=by rfl)(hNd:Nat.blt d N=true:=by rfl):Fw X P h0 N all (o::r) env H (.on (x::l)) Q:=by
 refine Fw.yield (by rw[J];rfl) hg hd hNd ?_ ?_
 .rw[hE];exact Qly E F j f g m
 grind
end
variable {R:Type}
def yl(x:T)(k:AB (AA T×R)):AB (AA T×R):=k.bind λp=>AC (x::p.1,p.2)
def ap(a:AB (AA T×B))(k:B->AB (AA T×R)):AB (AA T×R):=a.bind λp=>(k p.2).bind λq=>AC (p.1++q.1,q.2)
theorem rW{T R:Type}{x:T}{k:AB (AA T×R)}{d:AA T}{v:R}(h:yl x k=AC (d,v)):∃zs,k=AC (zs,v)/\d=x::zs:=by
 obtain⟨⟨zs,g⟩,f,j⟩:=Yf h
 grind
theorem rb{T B R:Type}{a:AB (AA T×B)}{k:B->AB (AA T×R)}{d:AA T}{v:R}(h:ap a k=AC (d,v)):∃y1 b y2,a=AC (y1,b)/\k b=AC (y2,v)/\d=y1++y2:=by
 obtain⟨⟨y1,b⟩,m,f⟩:=Yf h;obtain⟨⟨y2,g⟩,q,j⟩:=Yf f
 grind
variable {E':S->Env}{H':S->Qb}{β:Type}
section
variable {T:Type} {X:Fy T} {P:AK} {h0 N:Nat} {c c':Code} {env:Env} {H:Qb} {st:HT T} {Q:YD T}
def mW(h0:Nat)(b:β)(E':β->Env)(H':β->Qb)(rem:AA T)(Q:YD T):YD T
 |.normal,env,H,st=>Le h0 env H (E' b) (H' b)/\st=.on rem
 |.exit id,env,H,st=>Q (.exit id) env H st
 |.ret,env,H,st=>Q .ret env H st
theorem t8{E':β->Env}{H':β->Qb}(b:β)(rem:AA T)(sel keep:AA Nat)(nE:β->Env)(nH:β->AA (Nat×Ci))(_:∀b,Lf sel keep (nE b) (nH b) env H=AC (E' b,H' b))(h:C5 X P h0 N c env H st (mW h0 b E' H' rem Q))(k:∀env H,Le h0 env H (E' b) (H' b)->Q .normal env H (.on rem)):C5 X P h0 N c env H st Q:=
 h.mono λx env' H' st' q=>by
  cases x with
  |normal=>obtain⟨q1,rfl⟩:=q;grind
  |exit id=>exact q
  |ret=>exact q
theorem rg{β:Type}{b:β}{E':β->Env}{H':β->Qb}{rem:AA T}(h:Le h0 env H (E' b) (H' b)):mW h0 b E' H' rem Q .normal env H (.on rem):=⟨h,rfl⟩
theorem rh{β:Type}{b:β}{E':β->Env}{H':β->Qb}{rem:AA T}(h:Q .ret env H st):mW h0 b E' H' rem Q .ret env H st:=h
theorem r7{B:Type}{step:S->AB (AA T×CJ S B)}{m:Nat}{ys rem:AA T}{b:B}(sel keep:AA Nat)(nE:S->Env)(nH:S->AA (Nat×Ci))(h:OO step m s0=AC (ys,b))(_:∀s,Lf sel keep (nE s) (nH s) env H=AC (E' s,H' s))(hI:Le h0 env H (E' s0) (H' s0))
  (body:∀s zs d rest,step s=AC (zs,d)->(∀b',d=.d b'->b'=b/\rest=rem)->C5 X P h0 N c (E' s) (H' s) (.on (zs++rest)) (eX h0 E' H' d rest Q)):C5 X P h0 N (.loop c) env H (.on (ys++rem)) Q:=QmH h hI body
theorem sT{B:Type}{s:S}{d:CJ S B}{zs rest:AA T}(e:AC ([],CJ.k s)=AC (zs,d))(h:Le h0 env H (E' s) (H' s)):eX h0 E' H' d rest Q .normal env H (.on (zs++rest)):=by
 cases e;exact⟨s,rfl,h,rfl⟩
theorem sV{B:Type}{id:Nat}{d:CJ S B}{rest:AA T}(h:Q (.exit id) env H st):eX h0 E' H' d rest Q (.exit id) env H st:=h
theorem sU{B:Type}{d:CJ S B}{rest:AA T}(h:Q .ret env H st):eX h0 E' H' d rest Q .ret env H st:=h
theorem Oy{S B:Type}{d:CJ S B}{x b:B}{zs rest rem:AA T}(f:∀b',d=.d b'->b'=b/\rest=rem)(h:AC ([],CJ.d x)=AC (zs,d)):zs=[]/\b=x/\rest=rem:=by
 grind
theorem wb{f:FuncId}{fn:Func}{c:Code}{N:Nat}{caps:AA A}{enc:T->AA A}{xs:AA T}(d:P.funcs[f]?=AC fn)(g:fn.body=AC c)(j:fn.ntmps=N)(m:Nat.ble (caps.length+1) N=AE)(q:fn.results= #[])
  (h:∀X,X.enc=enc->X.nx=S6->C5 X P H.length N c (Kv 0 (.fn (.yield X.l) [] []::caps)) H (.on (xs++[])) hJ):SM P f caps H enc S6 xs:=by
 grind[xG]
end
open Go.MapKept
section
variable {fr ro:Nat->Prop} {σ:Cp} {H:Qb} {w:AJ}
end
end
section
open Go.MapKept
section
variable {P:AK} {kt:TypeId} {α β:Type} [DecidableEq α] {ek:α->A} {ev:β->AA A} {ro:Nat->Prop} {w:AJ} {t k:Nat} (K:JC P kt ek)
include K
omit K
include K
end
section
variable {P:AK} {o:AM} {env:Env} {H:Qb}
variable {T kt et:Nat} {α β:Type} [DecidableEq α] {ek:α->A} {ev:β->AA A} {x y:Operand} {i t k:Nat} {l:AA (α×AB (AA β))} {key:α} {rows:AA β}
end
end
section
open Go.MapKept
section
variable {P:AK} {kt:TypeId} {α β:Type} [DecidableEq α] {ek:α->A} {ev:β->AA A} {ro:Nat->Prop} {w:AJ} {t k:Nat} (K:JC P kt ek)
end
section
variable {P:AK} {o:AM} {env:Env} {H:Qb}
variable {T kt et:Nat} {α β:Type} [DecidableEq α] {ek:α->A} {ev:β->AA A} {x y zz:Operand} {i j t k n:Nat} {l m:AA (α×AB (AA β))} {key:α} {rows:AA β}
end
end
section
open Go.MapKept
section
variable {fr ro:Nat->Prop} {σ:Cp} {H:Qb} {w:AJ}
end
section
variable {P:AK} {o:AM} {env:Env} {H:Qb} {T kt et i t k:Nat} {x:Operand} {es:AA (A×AB (AA (AA A)))}
end
section
variable {P:AK} {o:AM} {env:Env} {H:Qb}
variable {T kt et:Nat} {α β:Type} [DecidableEq α] {ek:α->A} {ev:β->AA A} {x y zz:Operand} {i j t k n:Nat} {l m:AA (α×AB (AA β))} {key:α} {rows:AA β}
end
end
section
open Go.MapKept
section
variable {P:AK} {o:AM} {env:Env} {H:Qb}
variable {T kt et:Nat} {α β:Type} [DecidableEq α] {ek:α->A} {ev:β->AA A} {x y zz:Operand} {i j t k n:Nat} {l m:AA (α×AB (AA β))} {key:α} {rows:AA β}
end
end
section
theorem OR{h0 d:Nat}{x y:A}{e:Env}{H:Qb}:Le h0 ((d,x)::(d,y)::e) H ((d,x)::e) H:=Le.env λs=>.inr (by
 simp[lk]
 grind)
abbrev IV:=AA (Nat×Nat×Nat)
def eJ:Nat->Nat->AA (Nat×Nat)
 |lo,0=>[(lo,lo)]
 |lo,n+1=>(lo,lo)::eJ (lo+1) n
def qt(p:Nat×Nat×Nat):AA (Nat×Nat):=bif Nat.beq p.1 1 then[(p.2.1,p.2.1+1)]else eJ p.2.1 (p.2.2-p.2.1)
def Nv(cat:IV):AA (AA (Nat×Nat)):=cat.map qt
def kI(bs:AA Nat)(cat:IV):AA (AA Nat):=cat.map λp=>bs.take p.2.1
def l8(cat:IV):AA Bool:=cat.map λp=>Nat.beq p.1 1
def cQ(bs:AA Nat):AA (AA Nat):=(List.range (bs.length+1)).map bs.take
theorem jN:∀(n lo:Nat),∀p∈eJ lo n,p.1=p.2
 |0,lo,p,h=>by cases h with|head=>rfl|tail _ h=>cases h
 |n+1,lo,p,h=>by
  rcases X9.1 h with rfl|h
  .rfl
  .exact jN n _ p h
variable {Zs:AA Qb}{hi:Nat}
section
variable {P:AK} {T:GL} {h0 N m:Nat} {bs:AA Nat} {cat:IV} {l:AA AM} {ds:AA Nat} {env:Env} {H:Qb} {Hs:AA Qb} {Q:Qx} {K:AA AM->Env->Qb->Prop}
def R5(P:AK)(N:Nat)(cat:IV)(l:AA AM)(ds:AA Nat)(env:Env)(n:Nat)(Hs:AA Qb)(zs:AA A)(j:Nat):Prop:=
 ∀p∈(Nv cat).getD j [],Y0 P N l ds zs env n n j (Hs.getD p.1 []) (Hs.getD p.2 [])
def OP:AA (Nat×AB Ci)->Qb->Prop
 |[],_=>True
 |p::r,Z=>Z[p.1]?=p.2/\OP r Z
def DK(P:AK)(N m:Nat)(bs:AA Nat)(cat:IV)(l:AA AM)(ds:AA Nat)(env:Env)(n:Nat)(K:AA AM->Env->Qb->Prop)(B:AA (Nat×AB Ci))(Hs:AA Qb)(X:Qb)(r:AA AM)(xs:AA A):Prop:=
 r=l.drop xs.length->∃ys Zs Y,xs.length+ys.length=m/\Hs.length+Zs.length=bs.length/\((∀Z∈Zs,n<=Z.length)/\(Hs.reverse++X::Zs).getD bs.length []=Y/\ ∀Z∈Zs,OP B Z)/\(∀j,xs.length<=j->j<m->R5 P N cat l ds env n (Hs.reverse++X::Zs) (xs++ys) j)/\K (l.drop m) (IT ds (xs++ys) env) Y
theorem Qsx{d:AA A}{n:Nat}(f:cat.length=m)(h:∀j,0<=j->j<m->R5 P N cat l ds env n Zs d j):FP P N l ds d env n (n+0) 0 ((Nv cat).map λq=>q.map λp=>(Zs.getD p.1 [],Zs.getD p.2 [])):=by
 refine ng _ 0 λi s hs p g=>?_;rw[Xo]at hs;cases e:(Nv cat)[i]? with
 |none=>grind
 |some q=>
  rw[e]at hs;cases hs;obtain⟨x,t,rfl⟩:=Xe.1 g;have y:i<m:=by
   grind[Nv]
  have:=h i (XV _) y x gq
  grind
theorem Qpl{id:Nat}(m:Nat)(f:AA Nat)(cat:IV)(t:P.follows .mixedOrders=AE)(E:HC l m N (Ji m 0 l) (l8 cat) (kI f cat) (cQ f) (Nv cat)=AE)(j:Nat.beq cat.length m=AE)(g:Nat.ble h0 H.length=AE)
  (h:DK P N m f cat l (Ji m 0 l) env H.length (λr e H=>WO P h0 N l.toArray r e H Q) [] [] H l []):TC P h0 N (.region id l.toArray AE) env H Q:=by
 obtain⟨x,Zs,Y,G,F,J,y,B⟩:=h rfl;have d:=XR j;have q:(cQ f).length=f.length+1:=by simp[cQ]
 refine UI m 0 _ _ _ _ _ x (H::Zs) Y t E gq (by simp_all) g ?_ sq gq (Qsx d y) (by simp[Nv,d]) B
 simp_all
variable {n:Nat} {X X1:Qb} {B:AA (Nat×AB Ci)} {xs:AA A} {o:AM} {r:AA AM} {x:A} {d:Nat}
theorem DK.done(hx:Nat.beq xs.length m=AE)(d:Nat.beq Hs.length bs.length=AE)(h:K r (IT ds xs env) X):DK P N m bs cat l ds env n K B Hs X r xs:=by
 intro t;have e:=XR hx;have q:=XR d;refine⟨[],[],X,by simpa using e,om,⟨(λZ hZ=>by cases hZ),?_,λZ hZ=>by cases hZ⟩,λj f g=>om,?_⟩
 .grind
 grind
theorem DK.add(G:∀ys Zs,Hs.length+Zs.length=bs.length->(∀Z∈Zs,OP B Z)->l[xs.length]?=AC o->R5 P N cat l ds env n (Hs.reverse++X::Zs) (xs++x::ys) xs.length)(k:DK P N m bs cat l ds env n K B Hs X r (xs++[x])):DK P N m bs cat l ds env n K B Hs X (o::r) xs:=by
 intro q;obtain⟨E,h⟩:=aT q;obtain⟨ys,Zs,Y,t,f,y,g,d⟩:=k gq;simp[Vl,Vk]at t g d;refine⟨x::ys,Zs,Y,gq,f,y,λj F H=>?_,d⟩
 grind
theorem aG{zs:AA A}{j:Nat}{c:Nat×Nat×Nat}(f:QW cat j=AC c)(h:∀p∈qt c,Y0 P N l ds zs env n n j (Zs.getD p.1 []) (Zs.getD p.2 [])):R5 P N cat l ds env n Zs zs j:=by
 intro p d
 grind[Nc,Nv]
theorem Qp1{c:Nat}(d:Nat.beq c Hs.length=AE):(Hs.reverse++X::Zs).getD c []=X:=by
 simp_all
theorem DK.wo{c:Nat}(h:WO P X.length N l.toArray [o] (Qq (Qc o) 0 ds xs env) X (YE (up (Qq (Qc o) 0 ds xs env) d x) X))(k:DK P N m bs cat l ds env n K B Hs X r (xs++[x]))
  (g:QW cat xs.length=AC (0,c,c):=by rfl)(hd:o.dst=AC d:=by rfl)(hcH:Nat.beq c Hs.length=true:=by rfl):DK P N m bs cat l ds env n K B Hs X (o::r) xs:=
 .add (λys Zs hn hf ho=>aG g λp f=>by
  have:=by
   change p∈eJ c (c-c)at f;rw[Nat.sub_self]at f;exact VD.1 f
  grind[Qp1,Nd,YN]) k
theorem DK.wa{lo:Nat}(h:∀X,WO P X.length N l.toArray [o] (Qq (Qc o) 0 ds xs env) X (YE (up (Qq (Qc o) 0 ds xs env) d x) X))(k:DK P N m bs cat l ds env n K B Hs X r (xs++[x]))
  (g:QW cat xs.length=AC (0,lo,hi):=by rfl)(hd:o.dst=AC d:=by rfl):DK P N m bs cat l ds env n K B Hs X (o::r) xs:=
 .add (λys Zs hn hf ho=>aG g λp f=>by
  have e:=jN _ _ p f
  grind[Nd,YN]) k
theorem DK.op{c M:Nat}(h:WO P X.length N l.toArray [o] (Qq (Qc o) 0 ds xs env) X (YE (up (Qq (Qc o) 0 ds xs env) d x) X1))(k:DK P N m bs cat l ds env n K B (X::Hs) X1 r (xs++[x]))(hl:Nat.ble n X1.length=true:=by rfl)
  (hc:QW cat xs.length=AC (1,c,M):=by rfl)(hd:o.dst=AC d:=by rfl)(hcH:Nat.beq c Hs.length=true:=by rfl)(hB:OP B X1:=by repeat (first|exact trivial|refine⟨rfl,?_⟩)):DK P N m bs cat l ds env n K B Hs X (o::r) xs:=by
 intro J;obtain⟨O,H⟩:=aT J;obtain⟨E,Zs,Y,L,F,g,G,t⟩:=k gq;simp only[X5,X3,List.length_nil,Vl,VN,Vk,List.reverse_cons]at L F g G t;refine⟨x::E,X1::Zs,Y,gq,gq,⟨λZ f=>?_,g.2.1,?_⟩,λj Q R=>?_,t⟩
 .rcases X9.1 f with rfl|f
  .simp_all
  grind
 .intro Z f;rcases X9.1 f with rfl|f
  .exact hB
  .exact g.2.2 Z f
 .rcases VE xs.length j with q|q
  .grind
  .obtain rfl:j=xs.length:=by omega
   refine aG hc λp y=>?_;have:p=(c,c+1):=VD.1 y
   grind[Nat.eq_of_beq_eq_true,Nd,YN]
theorem QpR{hB hE:Nat}{xs d:AA A}{o:AM}{X X':Qb}(g:l[xs.length]?=AC o)(hdd:YU hB hE X X'=AE)(h:WO P X.length N l.toArray [o] (Qq (Qc o) 0 ds xs env) X (YE (Qq (Qc o) 0 ds xs env) X'))(f:o.dst=AF):
  Y0 P N l ds (xs++.any::d) env hB hE xs.length X X':=
 .unitE o _ g f n7 (he:=by
  intro s;rcases jB (af:=Qc o) (env0:=env) (s:=s) ds xs (.any::d) 0 with⟨j,y,B,x,t,m⟩|q|q
  .grind
  .grind
  grind) (hdd:=hdd) (h:=h)
theorem DK.un{c J:Nat}(h:WO P X.length N l.toArray [o] (Qq (Qc o) 0 ds xs env) X (YE (Qq (Qc o) 0 ds xs env) X1))(k:DK P N m bs cat l ds env n K B (X::Hs) X1 r (xs++[.any]))(hl:Nat.ble n X1.length=true:=by rfl)
  (hc:QW cat xs.length=AC (1,c,J):=by rfl)(hd:o.dst=none:=by rfl)(hcH:Nat.beq c Hs.length=true:=by rfl)(hB:OP B X1:=by repeat (first|exact trivial|refine⟨rfl,?_⟩)):DK P N m bs cat l ds env n K B Hs X (o::r) xs:=by
 intro G;obtain⟨L,F⟩:=aT G;obtain⟨x,Zs,Y,H,y,f,E,g⟩:=k gq;simp only[X5,X3,List.length_nil,Vl,VN,Vk,List.reverse_cons]at H y f E g;refine⟨.any::x,X1::Zs,Y,gq,gq,⟨λZ d=>?_,f.2.1,?_⟩,λj M O=>?_,g⟩
 .rcases X9.1 d with rfl|d
  .simp_all
  grind
 .intro Z d;rcases X9.1 d with rfl|d
  .exact hB
  .exact f.2.2 Z d
 .rcases VE xs.length j with q|q
  .grind
  .obtain rfl:j=xs.length:=by omega
   refine aG hc λp t=>?_;have:p=(c,c+1):=VD.1 t
   grind[Nat.eq_of_beq_eq_true,QpR,YN]
def Tw(T:GL)(N m:Nat)(cat:IV)(l:AA AM)(ds:AA Nat)(env:Env)(n:Nat)(fl:Bool):Nat->Nat->Nat->AA Qb->Qb->AA AM->AA A->AB (AA Qb×AA AM×AA A)
 |0,_,_,Hs,X,r,xs=>AC (Hs,r,xs)
 |_+1,_,_,_,_,[],_=>AF
 |k+1,i,j,Hs,X,o::r,xs=>match o.dst with
  |none=>AF
  |some d=>match Nat.blt d N with
   |false=>AF
   |true=>match Qv ⟨l⟩ o (Qq (Qc o) 0 ds xs env)with
    |none=>AF
    |some AD=>(match KY xs (.tup [])with
      |.mk xs'=>match QW cat i with
       |some (0,_,_)=>Tw T N m cat l ds env n fl k (i+1) j Hs X r xs'
       |some (1,c,_)=>(match fl&&Nat.beq c j,Nat.ble n X.length with
        |true,AE=>Tw T N m cat l ds env n fl k (i+1) (j+1) (X::Hs) X r xs'
        |_,_=>AF)
       |_=>AF)
    |some AE=>match QW cat i with
     |some (0,lo,hi)=>(match IR T o (Qq (Qc o) 0 ds xs env) []with
      |some x=>(match KY xs x with
       |.mk xs'=>Tw T N m cat l ds env n fl k (i+1) j Hs X r xs')
      |none=>match Nat.beq lo hi,Nat.beq lo j with
       |true,AE=>(match IR T o (Qq (Qc o) 0 ds xs env) X with
        |none=>AF
        |some x=>match KY xs x with
         |.mk xs'=>Tw T N m cat l ds env n fl k (i+1) j Hs X r xs')
       |_,_=>AF)
     |_=>AF
theorem fB(hT:I3 P T){fl:Bool}(hfl:fl=AE->B=[]):∀(k i j:Nat) {Hs Hs':AA Qb} {r r':AA AM} {xs xs':AA A},i=xs.length->j=Hs.length->Tw T N m cat l ds env n fl k i j Hs X r xs=AC (Hs',r',xs')->DK P N m bs cat l ds env n K B Hs' X r' xs'->DK P N m bs cat l ds env n K B Hs X r xs
 |0,i,j,Hs,Hs',r,r',xs,xs',_,_,h,k=>by cases h;exact k
 |k0+1,i,j,Hs,Hs',[],r',xs,xs',_,_,h,k=>by cases h
 |k0+1,i,j,Hs,Hs',o::r,r',xs,xs',hi,hj,h,k=>by
  subst hi hj;unfold Tw at h;split at h
  .cases h
  .rename_i d hd;split at h
   .cases h
   .rename_i q2;split at h
    .cases h
    .rename_i hw;simp[Jm]at h;split at h
     .rename_i lo hi' q0;exact .wa (λX=>WO.skip (Qh hw) hd q2 (WO.nil YE.mk)) (fB hT hfl k0 _ _ sq rfl h k) q0 hd
     .rename_i c c' q0;split at h
      .rename_i q1 q3;rw[XX]at q1;exact .op (WO.skip (Qh hw) hd q2 (WO.nil YE.mk)) (fB hT hfl k0 _ _ sq sq h k) q3 q0 hd q1.2 (hfl q1.1▸trivial)
      .cases h
     .cases h
    .rename_i hw;split at h
     .rename_i lo hi' q0;split at h
      .rename_i x hv;simp[Jm]at h;exact .wa (λX=>Ya (Qh hw) hd q2 (Ne hT (oY hv)) (WO.nil YE.mk)) (fB hT hfl k0 _ _ sq rfl h k) q0 hd
      .split at h
       .rename_i q1 q3;split at h
        .cases h
        .rename_i x hv;simp[Jm]at h;obtain rfl:=XR q1;exact .wo (Ya (Qh hw) hd q2 (Ne hT hv) (WO.nil YE.mk)) (fB hT hfl k0 _ _ sq rfl h k) q0 hd q3
       .cases h
     .cases h
theorem DK.is{α:Type}{b:Bool}{p q:AB α}{v:α}{f d:AA A}(j:Nat)(h:(bif b then p else q)=AC v)(hs:QW xs j=AC (.bool b))(x:HD xs j (.bool AE)=.mk f)(g:HD xs j (.bool AD)=.mk d)
  (t:b=AE->p=AC v->DK P N m bs cat l ds env n K B Hs X r f)(e:b=AD->q=AC v->DK P N m bs cat l ds env n K B Hs X r d):DK P N m bs cat l ds env n K B Hs X r xs:=by
 cases b with
 |true=>simp_all[fM]
 |false=>simp_all[fM]
theorem DK.v(h:CY P o (Qq (Qc o) 0 ds xs env) X x)(k:DK P N m bs cat l ds env n K B Hs X r (xs++[x])){c:Nat}(hg:Qv ⟨l⟩ o (Qq (Qc o) 0 ds xs env)=AC true:=by rfl)
  (hd:o.dst=AC d:=by rfl)(hN:Nat.blt d N=true:=by rfl)(hc:QW cat xs.length=AC (0,c,c):=by rfl)(hcH:Nat.beq c Hs.length=true:=by rfl):DK P N m bs cat l ds env n K B Hs X (o::r) xs:=
 .wo (Ya (Qh hg) hd hN h (WO.nil YE.mk)) k hc hd hcH
def SN(T:GL)(o:AM)(e:Env)(x:A):Nat->AA Qb->Prop
 |0,_=>True
 |k+1,Y::r=>IR T o e Y=AC x/\SN T o e x k r
 |_+1,[]=>False
theorem nO{T:GL}{o:AM}{e:Env}{x:A}:∀{k:Nat} {r:AA Qb},SN T o e x k r->∀j,j<k->IR T o e (r.getD j [])=AC x
 |0,_,_,j,hj=>om
 |k+1,[],h,_,_=>h.elim
 |k+1,Y::r,h,0,_=>h.1
 |k+1,Y::r,h,j+1,hj=>by
  have:=nO h.2 j om
  grind
theorem nJ:∀(n lo:Nat),∀p∈eJ lo n,lo<=p.1/\p.1<=lo+n
 |0,lo,p,h=>by cases h with|head=>omega|tail _ h=>cases h
 |n+1,lo,p,h=>by
  rcases X9.1 h with rfl|h
  .omega
  .have:=nJ n _ p h;omega
def Tk(P:AK)(N:Nat)(l:AA AM)(o:AM)(e:Env)(d:Nat)(x:A):Nat->AA Qb->Prop
 |0,_=>True
 |k+1,Y::r=>WO P Y.length N l.toArray [o] e Y (YE (up e d x) Y)/\Tk P N l o e d x k r
 |_+1,[]=>False
theorem s9{e:Env}:∀{k:Nat} {r:AA Qb},Tk P N l o e d x k r->∀j,j<k->WO P (r.getD j []).length N l.toArray [o] e (r.getD j []) (YE (up e d x) (r.getD j []))
 |0,_,_,j,hj=>om
 |k+1,[],h,_,_=>h.elim
 |k+1,Y::r,h,0,_=>h.1
 |k+1,Y::r,h,j+1,hj=>by
  have:=s9 h.2 j om
  grind
theorem eO{lo:Nat}(h:Tk P N l o (Qq (Qc o) 0 ds xs env) d x (hi+1-lo) (X::Hs))(k:DK P N m bs cat l ds env n K B Hs X r (xs++[x]))
  (q:QW cat xs.length=AC (0,lo,hi):=by rfl)(hd:o.dst=AC d:=by rfl)(hcH:Nat.beq hi Hs.length=true:=by rfl)(hle:Nat.ble lo hi=true:=by rfl):DK P N m bs cat l ds env n K B Hs X (o::r) xs:=
 .add (λys Zs hn hf ho=>aG q λp f=>by
  have e:=jN _ _ p f;have g:=XS hle;have hb:=nJ (hi-lo) lo p f;have y:=XR hcH;rw[<- e];have j:=s9 h (Hs.length-p.1) om;have t:(Hs.reverse++X::Zs).getD p.1 []=(X::Hs).getD (Hs.length-p.1) []:=by
   grind
  rw[t];exact Nd ho YN j hd) k
theorem DK.vs(E:I3 P T){lo:Nat}(h:SN T o (Qq (Qc o) 0 ds xs env) x (hi+1-lo) (X::Hs))(k:DK P N m bs cat l ds env n K B Hs X r (xs++[x]))
  (y:QW cat xs.length=AC (0,lo,hi))(j:o.dst=AC d)(f:Nat.beq hi Hs.length=AE)(hg:Qv ⟨l⟩ o (Qq (Qc o) 0 ds xs env)=AC AE)(q:Nat.blt d N=AE)(g:Nat.ble lo hi=AE):DK P N m bs cat l ds env n K B Hs X (o::r) xs:=by
 refine eO ?_ k y j f g;generalize hi+1-lo=c at h;generalize X::Hs=L at h
 induction c generalizing L with
 |zero=>trivial
 |succ c t=>
  cases L with
  |nil=>exact h.elim
  |cons Y L=>exact⟨Ya (Qh hg) j q (Ne E h.1) (WO.nil YE.mk),t L h.2⟩
def eU(o:AM)(e:Env):AB Nat:=match o.op with
 |.load _ (.global _)=>AF
 |.load _ x=>match DZ e x with
  |.mk (.ptr b _)=>AC b
  |_=>AF
 |_=>AF
theorem QlA{T:GL}{e:Env}{b:Nat}{Y Z:Qb}(h:eU o e=AC b)(m:Z[b]?=Y[b]?):IR T o e Z=IR T o e Y:=by
 have f:∀{x:Operand} {d:Nat},DZ e x=.mk (.ptr b d)->Nu Z (DZ e x)=Nu Y (DZ e x):=λq=>by
  rw[q];simp only[Nu,Nc,m]
 unfold eU at h;unfold IR;split at h
 .cases h
 .rename_i t x hx j;split at h
  .rename_i y d q;cases h;rw[j];cases x with
   |global g=>exact absurd rfl (hx g)
   |_=>simp only[f q]
  .cases h
 .cases h
theorem QqO(R:I3 P T){lo b:Nat}(hl:eU o (Qq (Qc o) 0 ds xs env)=AC b)(h:SN T o (Qq (Qc o) 0 ds xs env) x (Hs.length+1-lo) (X::Hs))(k:DK P N m bs cat l ds env n K ((b,X[b]?)::B) Hs X r (xs++[x]))
  (hc:QW cat xs.length=AC (0,lo,hi))(G:o.dst=AC d)(g:Nat.ble lo Hs.length=AE)(f:Nat.ble hi bs.length=AE)(hg:Qv ⟨l⟩ o (Qq (Qc o) 0 ds xs env)=AC AE)(hN:Nat.blt d N=AE):DK P N m bs cat l ds env n K B Hs X (o::r) xs:=by
 have k':DK P N m bs cat l ds env n K ((b,X[b]?)::B) Hs X (o::r) xs:=.add (λJ Zs hn hf ho=>aG hc λp H=>by
  have e:=jN _ _ p H;have g:=XS g;have f:=XS f;have hb:=nJ (hi-lo) lo p H;rw[<- e];have E:IR T o (Qq (Qc o) 0 ds xs env) ((Hs.reverse++X::Zs).getD p.1 [])=AC x:=by
   rcases VE Hs.length p.1 with q|q
   .have O:=nO h 0 om;obtain⟨j,hj⟩:∃j,p.1=Hs.length+1+j:=⟨p.1-Hs.length-1,om⟩;have y:(Hs.reverse++X::Zs).getD p.1 []=Zs.getD j []:=gq;have F:j<Zs.length:=om;have hk:=(hf Zs[j] (Vg F)).1;have hz:Zs.getD j []=Zs[j]:=gq;rw[y,hz,QlA hl hk];exact O
   .have E:=nO h (Hs.length-p.1) om;have y:(Hs.reverse++X::Zs).getD p.1 []=(X::Hs).getD (Hs.length-p.1) []:=gq;rw[y];exact E
  exact Nd ho YN (Ya (Qh hg) G hN (Ne R E) (WO.nil YE.mk)) G) k
 intro M;obtain⟨J,Zs,Y,V,L,t,Q,W⟩:=k' M;exact⟨J,Zs,Y,V,L,⟨t.1,t.2.1,λZ hZ=>(t.2.2 Z hZ).2⟩,Q,W⟩
end
def room(n:Int):AB Nat:=bif AG (0<n)&&AG (n<=4294967296)then AC n.toNat else AF
variable {T T' et t:Nat}{y:Operand}{α:Type}
variable {e:α->AA A}{l l':AA α}
section
variable {P:AK} {o:AM} {env:Env} {H:Qb}
theorem aC{d i:Nat}{x x':Ci}(hH:H[i]?=AC x)(e:x=x'):Le d env H env (H.set i x'):=by
 grind[List.set_getElem_self,Le.refl]
theorem RL.put{ro:Nat->Prop}{σ:Cp}{w:AJ}{k:Nat}:∀{a:Nat} {es fs:AA (AA A)} {l m:AA AL},RL ro σ w k es l->a+fs.length<=es.length->Sw.allK k fs->LR ro σ w fs.flatten m->(∀v∈m,QA v)->
  RL ro σ w k (es.take a++fs++es.drop (a+fs.length)) (Sw.splice l (a*k) m)
 |0,es,[],l,m,h,hn,hk,hm,hp=>by
  obtain rfl:m=[]:=hm;simpa[Sw.splice]using h
 |0,[],f::fs,l,m,h,hn,hk,hm,hp=>by simp at hn
 |0,c::es,f::fs,l,m,⟨l1,l2,h1,h2,h3,h4⟩,hn,hk,hm,hp=>by
  subst h1;have hl1:=h3.1.length;have hml:=hm.length;rw[Vo,X5]at hml;have e1:m.take k++m.drop k=m:=XA _ _;have q1:LR ro σ w f (m.take k):=by have:=hm.take k;rwa [Vo,Va (by rw[hk.1];omega),VL (by rw[hk.1];omega)]at this
  have q2:=by have:=hm.drop k;rwa [Vo,Vb (by rw[hk.1];omega),List.drop_of_length_le (by rw[hk.1];omega),Vk]at this
  have d:=RL.put (a:=0) h4 gq hk.2 q2 (λv g=>hp v (List.mem_of_mem_drop g));simp only[List.take_zero,Vk,Xx,Nat.zero_mul,Sw.splice]at d⊢;refine⟨m.take k,m.drop k++l2.drop (m.drop k).length,?_,hk.1,⟨q1,λv g=>hp v (List.mem_of_mem_take g)⟩,by simp_all⟩;have q:k<=m.length:=by rw[hml,hk.1];omega
  rw[<- Vl,e1];congr 1
  grind[List.drop_length_add_append]
 |a+1,[],fs,l,m,h,hn,hk,hm,hp=>by simp at hn
 |a+1,c::es,fs,l,m,⟨l1,l2,h1,h2,h3,h4⟩,hn,hk,hm,hp=>by
  subst h1;have hl1:=h3.1.length;have d:=RL.put (a:=a) h4 (by simp at hn;omega) hk hm hp;refine⟨l1,Sw.splice l2 (a*k) m,?_,h2,h3,?_⟩
  .have e1:(a+1)*k=l1.length+a*k:=by rw[Xm];omega
   unfold Sw.splice;rw[e1,Ve,show l1.length+a*k+m.length=l1.length+(a*k+m.length)from om,Vd];simp
  .have j:a+1+fs.length=(a+fs.length)+1:=by omega
   simpa[j]using d
def SL(P:AK)(H:Qb)(x:A)(k:Nat)(es:AA (AA A)):Prop:=
 ∀fr ro σ w v,Cm fr ro σ H w->VR ro σ w x v->(∃a c,v=.slice a es.length c)/\
  ∀j,j<=es.length->allK k (es.take j)/\ ∃l,(Builtin.firstCells k j v).run P w=.ok l.toArray w/\LR ro [] w (es.take j).flatten l/\ ∀v∈l,QA v
theorem wI{fr ro:Nat->Prop}{σ:Cp}{w:AJ}{k j b d n c:Nat}{es:AA (AA A)}(h:RR ro [] w b k es d)(m:j<=es.length):
  allK k (es.take j)/\ ∃l,(Builtin.firstCells k j (.slice (AC ⟨b,d,AF⟩) n c)).run P w=.ok l.toArray w/\LR ro [] w (es.take j).flatten l/\ ∀v∈l,QA v:=by
 obtain⟨t,x,f⟩:=(h.take j).flat;rw[Xz,XC m]at f;obtain⟨l,q,g⟩:=oq (c:=c) t f;exact⟨x,l,(q w rfl),g⟩
theorem o8{k n c:Nat}{a:AB Addr}{w:AJ}:(Builtin.firstCells k 0 (.slice a n c)).run P w=.ok #[] w:=by
 cases a<;>simp[go_sem]
theorem QqH{k:Nat}:SL P H (.rsl k (l.map e)) k (l.map e):=by
 intro fr q σ w v s ⟨a,c,h1,h2,d⟩;subst h1;refine⟨⟨a,c,rfl⟩,λj g=>?_⟩;rcases d with d|⟨b,f,rfl,m,h⟩
 .obtain rfl:j=0:=by grind
  exact⟨trivial,[],o8,rfl,sq⟩
 .exact wI (fr:=fr) (σ:=σ) h g
theorem SL.osl{i s n k t:Nat}{es d:AA (AA A)}(hH:H[i]?=AC (.row t k es))(he:(es.drop s).take n=d)(hn:s+n<=es.length):SL P H (.osl i s n k) k d:=by
 intro fr L σ w v sm h;have hl:d.length=n:=gq;rcases h with⟨rfl,rfl⟩|⟨b,p,f,M,m,E,rfl,x,⟨O,y⟩,J,N⟩
 .have e:d=[]:=gq;subst e;refine⟨⟨AF,0,rfl⟩,λj q=>?_⟩;obtain rfl:j=0:=om;exact⟨trivial,[],o8,rfl,sq⟩
 .rw[hl];refine⟨⟨_,f,rfl⟩,λj q=>?_⟩;obtain⟨l,B,G⟩:=sm.blk i _ _ E hH;have g:=((YV (pre:=[]) (by simpa using B) G).drop s).take n;rw[he]at g;by_cases F:0<f
  .obtain rfl:=x F;simpa using wI (fr:=fr) (σ:=σ) g om
  .obtain rfl:j=0:=by omega
   exact⟨trivial,[],o8,rfl,sq⟩
theorem QqI{b k:Nat}{r:AA α}{a c:Int}(h:Do l a c=AC r)(hH:H[b]?=AC (.row t k (l.map e)):=by rfl):SL P H (.osl b (0+a.toNat) (c.toNat-a.toNat) k) k (r.map e):=by
 obtain⟨j,f,g,d⟩:=T4 h;refine SL.osl hH ?_ gq;rw[<- d, <- List.map_drop, <- List.map_take,Xx,List.drop_take]
def SI(l:AA α)(a c:Int)(m:AA α):AB (AA α):=AC (l.take a.toNat++m.take (c.toNat-a.toNat)++l.drop (a.toNat+min m.length (c.toNat-a.toNat)))
theorem Qqx{r m:AA α}{a c:Int}(h:Do l a c=AC r)(d:SI l a c m=AC l'):l.length=l'.length:=by
 obtain⟨j,f,g,_⟩:=T4 h;rw[<- X0 d]
 grind
theorem QoI{m:AA α}(d:SI l 0 l.length m=AC l'):l.length=l'.length:=by
 rw[<- X0 d]
 grind
theorem vC{c:Call}{k b a n:Nat}{x:Operand}{ya:A}{m:AA α}(ab:a+n<=l.length)(ae:l.take a++m.take n++l.drop (a+min m.length n)=l')(hT:∀w,(underlying T).run P w=.ok (.slice et) w)(G:∀w,(sizeOf et).run P w=.ok k w)(hs:SL P H ya k (m.map e))
  (ho:o.op=.call c)(hc:c={callee:=.builtin .copy,args:= #[x,y],argTypes:= #[T,T']})(hx:CS env x=.osl b a n k)(hH:H[b]?=AC (.row t k (l.map e)))(Y:CS env y=ya):
  Fb P o env H (.int .i64 (min m.length n:Nat)) (H.set b (.row t k (l'.map e))):=by
 intro X L σ N ac w r;have B:=Qm r x;rw[hx]at B;have h2:=Qm r y;rw[Y]at h2;obtain⟨⟨ay,cy,e1⟩,q2⟩:=hs X L σ w _ r.sim h2;rw[X4]at e1 q2;obtain⟨q3,O,M,W,q6⟩:=q2 (min m.length n) (Nat.min_le_left _ _);have g:((m.map e).take (min m.length n)).length=min m.length n:=sq;have V:l'.map e=(l.map e).take a++(m.map e).take (min m.length n)++(l.map e).drop (a+((m.map e).take (min m.length n)).length):=by
  grind[List.map_take,List.map_drop]
 have d:(Builtin.copy_ #[T,T'] o.type #[ac.eval x,ac.eval y]).run P w=.ok (.int .i64 (min m.length n:Nat)) w->min m.length n=0->
   ∃v w' ro' τ,(execOp ac.eval o).run P w=.ok (.value v) w'/\VR ro' (σ++τ) w' (.int .i64 (min m.length n:Nat)) v/\Cm X ro' (σ++τ) (H.set b (.row t k (l'.map e))) w'/\Qe X L w ro' w':=by
  intro h hz;have hs:H.set b (.row t k (l'.map e))=H:=by
   have:l'.map e=l.map e:=by simp_all
   grind[List.set_getElem_self]
  refine⟨_,w,L,[],?_,rfl,by simpa[hs]using r.sim,Qe.refl _ _ _⟩;subst hc;generalize ac.eval=ρ at*
  simp_all[execOp,resolve,invoke,builtin]
 have J:∀j:Nat,goInt j=.int .i64 j:=λ_=>rfl;rcases B with⟨hn,B⟩|⟨bb,p,ad,t',mm,B,h3,h4,⟨h5,af⟩,h6,h7⟩
 .refine d ?_ om;rw[e1]at M⊢;rw[B];have:Nat.min m.length 0=min m.length n:=by rw[hn]
  simp only[Builtin.copy_,XH,XF,XG,Vp,hT,G,Result.andThen,Builtin.lenOf,Vq,this,M,J]
 .have f:∀R:Result Unit,(storeCells ⟨bb,p,AF⟩ O).run P w=R->(Builtin.copy_ #[T,T'] o.type #[ac.eval x,ac.eval y]).run P w=R.andThen λ_ w=>.ok (.int .i64 (min m.length n:Nat)) w:=by
   intro R hR;rw[e1]at M⊢;rw[h3];have:Nat.min m.length n=min m.length n:=rfl;simp only[Builtin.copy_,XH,XF,XG,Vp,hT,G,Result.andThen,Builtin.lenOf,Vq,this,M,J,hR]
  by_cases hn:min m.length n=0
  .have E:O=[]:=by
    have:=W.length;rw[hn]at this;exact VM.1 (by simpa using this)
   refine d ?_ hn;have:=f (.ok () w) (by rw[E];rfl);rw[this];rfl
  .obtain rfl:=h4 om;obtain⟨l0,g1,g2⟩:=r.sim.blk b _ _ B hH;have Q:=g2.length;have E:=W.length;rw[Y8 q3,g]at E;have ag:a*k+(min m.length n)*k<=l0.length:=by
    rw[<- XB];refine XW (XD k ?_) Q;rw[X4];omega
   have F:=Yi (P:=P) (vs:=O) (a*k) 0 g1 om q6;rw[Xy]at F;have h:=f _ F;have q:=r.sim.set (x':=.row t k (l'.map e)) (obj:=.cells (splice l0 (a*k) O).toArray t (0,0)) B hH rfl
    (λy Y=>Ju g1 (Yg om) y Y)
    (λex aa=>⟨_,aa,by
     rw[V];exact(RL.put g2 (by rw[g,X4];omega) q3 W q6).mono ex.nil⟩)
   refine⟨_,_,L,[],?_,rfl,by simpa using q.1,q.2⟩;subst hc;generalize ac.eval=ρ at*;simp only[execOp,ho,resolve,Vp,Vq,Result.andThen,invoke,builtin,XJ,Vm,Vn,h]
theorem QmU{c:Call}{k b:Nat}{x:Operand}{f:A}{m:AA α}(h:SI l 0 l.length m=AC l')(g:∀w,(underlying T).run P w=.ok (.slice et) w)(d:∀w,(sizeOf et).run P w=.ok k w)(hs:SL P H f k (m.map e))
  (j:o.op=.call c:=by rfl)(hc:c={callee:=.builtin .copy,args:= #[x,y],argTypes:= #[T,T']}:=by rfl)(hx:CS env x=.osl b 0 l.length k:=by rfl)(hH:H[b]?=AC (.row t k (l.map e)):=by rfl)(hy:CS env y=f:=by rfl):
  Fb P o env H (.int .i64 (min m.length l.length:Nat)) (H.set b (.row t k (l'.map e))):=by
 refine vC om ?_ g d hs j hc hx hH hy;rw[<- X0 h];rfl
theorem QmV{c:Call}{k b:Nat}{x:Operand}{f:A}{q m:AA α}{i j:Int}(hi:Do l i j=AC q)(h:SI l i j m=AC l')(B:∀w,(underlying T).run P w=.ok (.slice et) w)(d:∀w,(sizeOf et).run P w=.ok k w)(hs:SL P H f k (m.map e))
  (g:o.op=.call c:=by rfl)(hc:c={callee:=.builtin .copy,args:= #[x,y],argTypes:= #[T,T']}:=by rfl)(hx:CS env x=.osl b (0+i.toNat) (j.toNat-i.toNat) k:=by rfl)(hH:H[b]?=AC (.row t k (l.map e)):=by rfl)(hy:CS env y=f:=by rfl):
  Fb P o env H (.int .i64 (min m.length (j.toNat-i.toNat):Nat)) (H.set b (.row t k (l'.map e))):=by
 obtain⟨G,E,J,F⟩:=T4 hi;refine vC om (X0 h) B d hs g hc ?_ hH hy
 grind
end
open Go.MapKept
section
variable {fr ro ro':Nat->Prop} {σ:Cp} {H:Qb} {w:AJ}
end
theorem xT{S B:Type}{d D:CJ S B}{x:B}(hb:∀b,d=.d b->D=.d b)(h:AC (CJ.d x)=AC d):D=.d x:=hb x (Oi h).symm
end
section
section
variable {P:AK} {o:AM} {env:Env} {H:Qb} {α:Type} {e:α->AA A}
end
open Go.MapKept
section
variable {P:AK} {o:AM} {env:Env} {H:Qb}
variable {T kt et:Nat} {α β:Type} [DecidableEq α] {ek:α->A} {ev:β->A} {x y:Operand} {i:Nat} {l:AA (α×β)} {k:α} {z0:β} {z:AL}
end
section
variable {fr ro:Nat->Prop} {σ:Cp} {H:Qb} {w:AJ}
theorem Cm.shutAny(s:Cm fr ro σ H w){i b:Nat}{m:Ci}(hσ:σ[i]?=AC (AC b))(hH:H[i]?=AC m)(hl:m.live=AE):
  Cm fr (λc=>ro c\/c=b) σ (H.set i .dead) w:=by
 have hown:=s.own i b _ hσ hH hl;have ext:Dh ro σ w (λc=>ro c\/c=b) σ w:=⟨λ_ q=>.inl q,λ_ _=>rfl,λ_ _ q=>q,λ_ _ q=>q⟩;have d:∀(j:Nat) (v:Ci),(H.set i .dead)[j]?=AC v->v≠ .dead->j≠i/\H[j]?=AC v:=by
  grind
 refine⟨by rw[X6];exact s.len,s.roOk.to (λ_ q=>.inl q) (λ_ _=>rfl) ?_,s.frLt,?_,?_,?_,?_⟩
 .rintro c (q|rfl)
  .exact s.roLt c q
  omega
 .rintro c (q|rfl)
  .exact s.roFr c q
  grind
 .intro j c v g f h;obtain⟨e,f⟩:=d j v f (Ci.nd h);obtain⟨J,M,G⟩:=s.own j c v g f h;refine⟨J,?_,G⟩;rintro(q|rfl)
  .exact M q
  .exact e (s.inj j i c v _ g hσ f hH h hl)
 .intro j t c v E g f h L F x;exact s.inj j t c v E g f (d j v h (Ci.nd F)).2 (d t E L (Ci.nd x)).2 F x
 .intro j y v g f;by_cases B:v≠ .dead
  .exact(s.blk j y v g (d j v f B).2).keep ext (λ_ _ _=>rfl)
  .obtain rfl:v=.dead:=Classical.not_not.1 B;trivial
def mc(H:Qb):AA Nat->Qb
 |[]=>H
 |i::l=>mc (H.set i .dead) l
theorem Cm.shutL:∀{l:AA Nat} {ro:Nat->Prop} {H:Qb} (s:Cm fr ro σ H w),l.Nodup->(∀i∈l,∃x,H[i]?=AC x/\x.live=AE)->
  ∃ro',Cm fr ro' σ (mc H l) w/\(∀c,ro c->ro' c)/\ ∀i∈l,∀b,σ[i]?=AC (AC b)->ro' b
 |[],ro,H,s,_,_=>⟨ro,s,λ_ q=>q,λ_ h=>by cases h⟩
 |i::l,ro,H,s,hn,hl=>by
  rw[List.nodup_cons]at hn;obtain⟨x,hx,hxl⟩:=hl i sq;have rest:∀i'∈l,∃x,(H.set i .dead)[i']?=AC x/\x.live=true:=by
   grind
  have hs:∃q,σ[i]?=AC q:=by
   have:i<σ.length:=by rw[s.len];grind
   simp_all
  obtain⟨q,m⟩:=hs;cases q with
  |some b=>
   obtain⟨ro',f,j,y⟩:=Cm.shutL (s.shutAny m hx hxl) hn.2 rest;refine⟨ro',f,gq,λi' g t d=>?_⟩
   grind
  |none=>
   obtain⟨ro',f,j,y⟩:=Cm.shutL (s.kill i) hn.2 rest;refine⟨ro',f,j,λi' g t d=>?_⟩
   grind
end
end
section
structure HW (α β:Type) where
 number:Int
 r0:List α
 r1:List α
 r2:List α
 reports:List β
 appeal:Bool
 deriving DecidableEq
structure FK (α β:Type) where
 T:Nat
 tF:Nat
 kF:Nat
 tR:Nat
 kR:Nat
 eF:α->List A
 eR:β->List A
section
variable {α β:Type} (K:FK α β)
def Qsb(b:Nat)(x:HW α β):AA A:=[.int .i64 x.number,.osl (b+1) 0 x.r0.length K.kF,.osl (b+2) 0 x.r1.length K.kF,.osl (b+3) 0 x.r2.length K.kF,.osl (b+4) 0 x.reports.length K.kR,.bool x.appeal]
def ii(b:Nat)(x:HW α β):AA Ci:=[.cells K.T (Qsb K b x),.row K.tF K.kF (x.r0.map K.eF),.row K.tF K.kF (x.r1.map K.eF),.row K.tF K.kF (x.r2.map K.eF),.row K.tR K.kR (x.reports.map K.eR)]
def N':Nat->AA (HW α β)->AA Ci
 |_,[]=>[]
 |b,x::l=>ii K b x++N' (b+5) l
def rA(x:HW α β):AA A:=[.int .i64 x.number,.rsl K.kF (x.r0.map K.eF),.rsl K.kF (x.r1.map K.eF),.rsl K.kF (x.r2.map K.eF),.rsl K.kR (x.reports.map K.eR),.bool x.appeal]
def dG:Nat->AA (HW α β)->AA (Int×Nat)
 |_,[]=>[]
 |b,x::l=>(x.number,b)::dG (b+5) l
def kJ(j:Nat):A:=.ptr j 0
def xn(x:HW α β):A:=.rp (rA K x)
def mA(fs:AA (HW α β)):AA (Int×HW α β):=fs.map λx=>(x.number,x)
theorem va(b:Nat)(x:HW α β)(l:AA (HW α β)):N' K b (x::l)=ii K b x++N' K (b+5) l:=rfl
theorem Qmd(b:Nat)(x:HW α β):(ii K b x).length=5:=rfl
end
section
variable {fr ro ro':Nat->Prop} {σ:Cp} {w:AJ}
theorem jJ(sub:∀c,ro c->ro' c){i t k:Nat}{es:AA (AA A)}{v:AL}(B:∀b,σ[i]?=AC (AC b)->BR ro σ w (.row t k es) (AC b)/\ro' b)(h:VR ro σ w (.osl i 0 es.length k) v):VR ro' [] w (.rsl k es) v:=by
 rcases h with⟨M,h⟩|⟨b,p,d,J,m,y,h,G,⟨f,j⟩,H,L⟩
 .have:es=[]:=gq;subst this;exact⟨AF,0,h,XU _,.inl rfl⟩
 .refine⟨_,d,h,f,?_⟩;by_cases g:es=[]
  .exact .inl g
  .right;have N:0<d:=Vi gq f;obtain⟨⟨l,x,F⟩,E⟩:=B b y;refine⟨b,0,sq,E,?_⟩;have:=YV (pre:=[]) (by simpa using x) F;exact this.keep ⟨sub,λ_ _=>rfl,λ_ _ q=>q,λ_ _ q=>q⟩ rfl
theorem rv{ro:Nat->Prop}{w:AJ}{b t:Nat}:∀{cs:AA A} {pre l:AA AL},w.heap[b]?=AC (.cells (pre++l).toArray t (0,0))->LR ro [] w cs l->(∀v∈l,QA v)->CR ro [] w b cs pre.length
 |[],pre,l,_,_,_=>trivial
 |a::cs,pre,l,hb,hl,hp=>by
  obtain⟨v,l',rfl,h1,h2⟩:=hl;refine⟨⟨v,?_,hp v sq,h1⟩,?_⟩
  .unfold World.cell?
   grind
  .have:=rv (pre:=pre++[v]) (by simpa using hb) h2 gq
   grind
variable {α β:Type} (K:FK α β)
theorem QqF(sub:∀c,ro c->ro' c){b:Nat}{x:HW α β}{v:AL}(j:∀(d c:Nat) (y:Ci),(ii K b x)[d]?=AC y->σ[b+d]?=AC (AC c)->BR ro σ w y (AC c)/\ro' c)(h:VR ro σ w (.ptr b 0) v):VR ro' [] w (.rp (rA K x)) v:=by
 obtain⟨c,E,q⟩:=h;obtain⟨⟨l,J,f,B⟩,H⟩:=j 0 c _ rfl E;refine⟨c,0,q,H,(rv (pre:=[]) (by simpa using J) ?_ B)⟩;obtain⟨v0,V,rfl,m,f⟩:=f;obtain⟨F,X,rfl,P,f⟩:=f;obtain⟨L,Y,rfl,q2,f⟩:=f;obtain⟨t,R,rfl,Q,f⟩:=f;obtain⟨M,T,rfl,W,f⟩:=f;obtain⟨N,O,rfl,G,f⟩:=f;refine⟨v0,_,rfl,m,F,_,rfl,jJ sub (λc g=>j 1 c _ rfl g) gq,L,_,rfl,jJ sub (λc g=>j 2 c _ rfl g) gq,t,_,rfl,jJ sub (λc g=>j 3 c _ rfl g) gq,
  M,_,rfl,jJ sub (λc g=>j 4 c _ rfl g) gq,N,_,rfl,G,f⟩
theorem Qpi(sub:∀c,ro c->ro' c){ek:Int->A}(hek:∀(k:Int) (v:AL),VR ro σ w (ek k) v->VR ro' [] w (ek k) v):∀{b:Nat} {fs:AA (HW α β)} {es:AA MapEntry},(∀(d c:Nat) (y:Ci),(N' K b fs)[d]?=AC y->σ[b+d]?=AC (AC c)->BR ro σ w y (AC c)/\ro' c)->
  ER ro σ w (Qi ek kJ (dG b fs)) es->ER ro' [] w (Qi ek (xn K) (mA fs)) es
 |b,[],es,_,h=>h
 |b,x::l,es,hb,h=>by
  obtain⟨e,l',rfl,h1,h2,h3⟩:=h;refine⟨e,l',rfl,hek _ _ h1,?_,?_⟩
  .refine QqF K sub (λd c y hy hc=>hb d c y ?_ hc) h2
   grind[va]
  .refine Qpi sub hek (λd c y hy hc=>hb (d+5) c y ?_ gq) h3
   grind[va,Qmd]
end
section
variable {fr ro:Nat->Prop} {σ:Cp} {w:AJ} {α β:Type} (K:FK α β)
end
open Go.Sort Go.Proofs Go.Shelf
end
section
structure Pl where
 b:Nat
 i0:Nat
 i1:Nat
 i2:Nat
 i3:Nat
def Pl.ix(p:Pl):AA Nat:=[p.b,p.i0,p.i1,p.i2,p.i3]
section
variable {α β:Type} (K:FK α β)
def mo(p:Pl)(x:HW α β):AA A:=[.int .i64 x.number,.osl p.i0 0 x.r0.length K.kF,.osl p.i1 0 x.r1.length K.kF,.osl p.i2 0 x.r2.length K.kF,.osl p.i3 0 x.reports.length K.kR,.bool x.appeal]
structure L9 (H:Qb) (x:HW α β) (p:Pl):Prop where
 c:H[p.b]?=AC (.cells K.T (mo K p x))
 r0:H[p.i0]?=AC (.row K.tF K.kF (x.r0.map K.eF))
 r1:H[p.i1]?=AC (.row K.tF K.kF (x.r1.map K.eF))
 r2:H[p.i2]?=AC (.row K.tF K.kF (x.r2.map K.eF))
 r3:H[p.i3]?=AC (.row K.tR K.kR (x.reports.map K.eR))
abbrev Zy(α β:Type):=AA (HW α β×Pl)
structure H_ (lo:Nat) (H:Qb) (bk:Zy α β):Prop where
 laid:∀e∈bk,L9 K H e.1 e.2
 own:∀e∈bk,e.2.ix.Nodup
 ne:bk.Pairwise λe f=>∀i∈e.2.ix,i∉f.2.ix
 lo:∀e∈bk,∀i∈e.2.ix,lo<=i
 num:(bk.map (·.1.number)).Nodup
variable {K} {lo:Nat} {H H':Qb} {bk l r:Zy α β} {e:HW α β×Pl} {x':HW α β} {p':Pl}
theorem H_.nil:H_ K lo H []:=⟨(λ_ h=>by cases h),(λ_ h=>by cases h),List.Pairwise.nil,(λ_ h=>by cases h),List.nodup_nil⟩
theorem L9.lt(h:L9 K H e.1 e.2):∀i∈e.2.ix,i<H.length:=by
 intro i d;have g:∀{j:Nat} {y:Ci},H[j]?=AC y->j<H.length:=gq;simp[Pl.ix,X9,List.not_mem_nil,or_false]at d;rcases d with rfl|rfl|rfl|rfl|rfl
 .exact g h.c
 .exact g h.r0
 .exact g h.r1
 .exact g h.r2
 .exact g h.r3
theorem L9.keep(h:L9 K H e.1 e.2)(k:∀i∈e.2.ix,H'[i]?=H[i]?):L9 K H' e.1 e.2:=by
 refine⟨?_,?_,?_,?_,?_⟩
 .rw[k _ (by simp[Pl.ix])];exact h.c
 .rw[k _ (by simp[Pl.ix])];exact h.r0
 .rw[k _ (by simp[Pl.ix])];exact h.r1
 .rw[k _ (by simp[Pl.ix])];exact h.r2
 .rw[k _ (by simp[Pl.ix])];exact h.r3
theorem H_.keep(h:H_ K lo H bk)(k:∀j,lo<=j->j<H.length->H'[j]?=H[j]?):H_ K lo H' bk:=
 ⟨λe he=>(h.laid e he).keep λi hi=>k i (h.lo e he i hi) ((h.laid e he).lt i hi),h.own,h.ne,h.lo,h.num⟩
theorem H_.upd(h:H_ K lo H (l++e::r))(hx:L9 K H' x' p')(hn:x'.number=e.1.number)(hs:∀j,lo<=j->j<H.length->j∉e.2.ix->H'[j]?=H[j]?)
  (hi:∀i∈p'.ix,i∈e.2.ix\/H.length<=i)(F:p'.ix.Nodup)(hl:lo<=H.length):H_ K lo H' (l++(x',p')::r):=by
 obtain⟨J,L,M⟩:=List.pairwise_append.1 h.ne;obtain⟨N,G⟩:=Xc.1 L;have mem:∀f∈l++(x',p')::r,f=(x',p')\/(f∈l++e::r/\ ∀i∈f.2.ix,i∉e.2.ix):=by
  intro f d
  grind
 refine⟨?_,?_,?_,?_,?_⟩
 .intro f d;rcases mem f d with rfl|⟨t,y⟩
  .exact hx
  .exact(h.laid f t).keep λi hi=>hs i (h.lo f t i hi) ((h.laid f t).lt i hi) (y i hi)
 .intro f d;rcases mem f d with rfl|⟨t,y⟩
  .exact F
  .exact h.own f t
 .refine List.pairwise_append.2 ⟨J,Xc.2 ⟨?_,G⟩,?_⟩
  .intro f d i m x;rcases hi i m with q|q
   .grind
   .have:=(h.laid f (by simp[d])).lt i x;omega
  .intro f d g E i x B;rcases X9.1 E with rfl|E
   .rcases hi i B with q|q
    .grind
    .have:=(h.laid f (by simp[d])).lt i x;omega
   grind
 .intro f d;rcases mem f d with rfl|⟨t,y⟩
  .intro i m;rcases hi i m with q|q
   .exact h.lo e sq i q
   .omega
  .exact h.lo f t
 .have:=h.num
  grind
theorem H_.add(h:H_ K lo H bk)(hx:L9 K H' x' p')(hn:∀e∈bk,e.1.number≠x'.number)(hs:∀j,lo<=j->j<H.length->H'[j]?=H[j]?)
  (hi:∀i∈p'.ix,H.length<=i)(t:p'.ix.Nodup)(hl:lo<=H.length):H_ K lo H' (bk++[(x',p')]):=by
 have x:=h.keep hs;have mem:∀f∈bk++[(x',p')],f∈bk\/f=(x',p'):=by
  simp
 refine⟨?_,?_,?_,?_,?_⟩
 .intro f d;rcases mem f d with q|rfl
  .exact x.laid f q
  .exact hx
 .intro f d;rcases mem f d with q|rfl
  .exact h.own f q
  .exact t
 .refine List.pairwise_append.2 ⟨h.ne,sq,λf d g B i m y=>?_⟩;have:=(h.laid f d).lt i m
  grind
 .intro f d i m;rcases mem f d with q|rfl
  .exact h.lo f q i m
  grind
 .rw[Xf];refine List.nodup_append.2 ⟨h.num,sq,?_⟩
  grind
end
section
variable {fr ro ro':Nat->Prop} {σ:Cp} {w:AJ} {α β:Type} (K:FK α β)
def ma(bk:Zy α β):AA Nat:=bk.flatMap λe=>e.2.ix
theorem H_.all{lo:Nat}{H:Qb}:∀{f:Zy α β},H_ K lo H f->(ma f).Nodup/\ ∀i∈ma f,lo<=i/\ ∃y,H[i]?=AC y/\y.live=true:=by
 intro f h;refine⟨?_,?_⟩
 .have j:=h.own;have m:=h.ne
  grind[ma]
 .intro i d;obtain⟨e,g,d⟩:=List.mem_flatMap.1 d;refine⟨h.lo e g i d,?_⟩;have hl:=h.laid e g;simp[Pl.ix,X9,List.not_mem_nil,or_false]at d;rcases d with rfl|rfl|rfl|rfl|rfl
  .exact⟨_,hl.c,rfl⟩
  .exact⟨_,hl.r0,rfl⟩
  .exact⟨_,hl.r1,rfl⟩
  .exact⟨_,hl.r2,rfl⟩
  .exact⟨_,hl.r3,rfl⟩
end
section
variable {α β:Type} (K:FK α β) {env:Env} {H:Qb}
end
section
variable {P:AK} {h0 N:Nat} {all:Array AM} {o:AM} {l:AA AM} {env:Env} {H:Qb} {Q:Qx}
end
section
variable {h0 n:Nat} {env env':Env} {H H':Qb}
end
section
variable {P:AK} {o:AM} {env:Env} {H:Qb} {α:Type}
end
section
variable {α β:Type}
def S7(k:Int):HW α β:=⟨k,[],[],[],[],AD⟩
variable (K:FK α β) {lo:Nat} {H H':Qb} {bk:Zy α β}
def Z4(n:Nat):Pl:=⟨n,n+1,n+2,n+3,n+4⟩
def jH(n:Nat)(k:Int):Qb:=[.cells K.T (mo K (Z4 n) (S7 k)),.row K.tF K.kF [],.row K.tF K.kF [],.row K.tF K.kF [],.row K.tR K.kR []]
theorem L9.new{k:Int}:L9 K (H++jH K H.length k) (S7 k) (Z4 H.length):=by
 have g:∀(j:Nat) (y:Ci),(jH K H.length k)[j]?=AC y->(H++jH K H.length k)[H.length+j]?=AC y:=by
  grind
 exact⟨g 0 _ rfl,g 1 _ rfl,g 2 _ rfl,g 3 _ rfl,g 4 _ rfl⟩
theorem tS(n:Nat):(∀i∈(Z4 n).ix,n<=i)/\(Z4 n).ix.Nodup:=by
 simp_all[Pl.ix,Z4]
variable {K}
theorem H_.new{k:Int}(h:H_ K lo H bk)(hk:∀e∈bk,e.1.number≠k)(hl:lo<=H.length):H_ K lo (H++jH K H.length k) (bk++[(S7 k,Z4 H.length)]):=by
 refine h.add (L9.new K) hk gq (tS _).1 (tS _).2 hl
theorem H_.row{l r:Zy α β}{e:HW α β×Pl}{x':HW α β}{d:Pl}{i:Nat}{y:Ci}(h:H_ K lo H (l++e::r))(hl:lo<=H.length)(hn:x'.number=e.1.number)(hi:i∈e.2.ix)(B:i≠e.2.b)(L:d.b=e.2.b)
  (hH:H'=(H.set i .dead++[y]).set e.2.b (.cells K.T (mo K d x')))
  (g:d.ix=e.2.ix.map λj=>bif Nat.beq j i then H.length else j)
  (G:H'[d.i0]?=AC (.row K.tF K.kF (x'.r0.map K.eF)))(E:H'[d.i1]?=AC (.row K.tF K.kF (x'.r1.map K.eF)))(x:H'[d.i2]?=AC (.row K.tF K.kF (x'.r2.map K.eF)))(J:H'[d.i3]?=AC (.row K.tR K.kR (x'.reports.map K.eR))):
  H_ K lo H' (l++(x',d)::r):=by
 have t:=h.laid e sq;have f:=t.lt;have m:e.2.b<H.length:=f _ (by simp[Pl.ix]);refine h.upd ⟨?_,G,E,x,J⟩ hn ?_ ?_ ?_ hl
 .grind
 .grind[List.getElem?_set_ne,Pl.ix]
 .grind
 .rw[g];have q:=h.own e sq;refine List.pairwise_map.2 (List.Pairwise.imp_of_mem ?_ q);intro a b M L F;cases N:Nat.beq a i with
  |true=>
   cases O:Nat.beq b i with
   |true=>simp_all
   |false=>grind
  |false=>
   grind
end
section
variable {fr ro:Nat->Prop} {σ:Cp} {H:Qb} {w:AJ}
end
section
variable {P:AK} {o:AM} {env:Env} {H:Qb}
end
open Go.MapKept
section
variable {P:AK} {kt et:Nat} {α β:Type} [DecidableEq α] {ek:α->A} {ev:β->A} {ro:Nat->Prop} {σ:Cp} {w:AJ} (K:JC P kt ek)
include K
variable {o:AM} {env:Env} {H:Qb} {T T' i:Nat} {x y:Operand} {l m:AA (α×β)} {k:α}
end
end
section
section
variable {P:AK} {h0 N:Nat} {all:Array AM} {o1 o2:AM} {l:AA AM} {env:Env} {H:Qb} {Q:Qx}
end
section
variable {P:AK} {o:AM} {env:Env} {H:Qb}
end
section
variable {P:AK} {o:AM} {env:Env} {H:Qb} {α:Type}
end
theorem Jn{h0:Nat}{env:Env}{H H':Qb}(e:H=H'):Le h0 env H env H':=e▸Le.refl h0 env H
section
variable {P:AK} {o:AM} {env:Env} {H:Qb}
end
section
variable {env:Env} {H:Qb}
theorem aQ{h0 i j m o' n k T:Nat}{x:Ci}{d:AA A}(hi:H[i]?=AC x)(L:H[j]?=AC (.cells T d))(F:d[m]?=AC (.osl i o' n k))(g:Nat.beq i j=AD)(hh:Nat.ble h0 H.length=AE):
  Le h0 env H env ((H.set i .dead).set j (.cells T (d.set m (.osl H.length o' n k)))++[x]):=by
 intro fr J σ N a w r;have hiσ:i<σ.length:=by rw[r.sim.len];exact(XM.1 hi).1
 have hσ:σ[i]?=AC σ[i]:=XL hiσ;have ext:Dh J σ w J (σ++[σ[i]]) w:=⟨λ_ q=>q,λ_ _=>rfl,λ_ _ q=>q,λ_ _ h=>jq h⟩;have R:=r.sim.moved hi hσ;have B:j<H.length:=(XM.1 L).1;have G:i≠j:=λq=>by rw[q,VI]at g;cases g
 have f:(H.set i .dead++[x])[j]?=AC (.cells T d):=by
  rw[XN (by simpa using B),XQ G];exact L
 have P:(H.set i .dead).set j (.cells T (d.set m (.osl H.length o' n k)))++[x]=(H.set i .dead++[x]).set j (.cells T (d.set m (.osl H.length o' n k))):=by
  rw[List.set_append_left _ _ (by simpa using B)]
 rw[P];refine⟨J,σ++[σ[i]],⟨R.weaken f rfl ?_,λq=>(r.env q).mono ext,r.size,r.defers⟩,λ_ q=>q,QJ (by rw[r.sim.len];exact XS hh)⟩;have E:σ.length=H.length:=r.sim.len;intro y h;cases y with
 |none=>exact h
 |some b=>
  obtain⟨l,Q,g2,Y⟩:=h;refine⟨l,Q,?_,Y⟩;clear Q Y f P L R
  induction d generalizing m l with
  |nil=>cases F
  |cons c d ih=>
   obtain⟨v,M,rfl,W,V⟩:=g2;cases m with
   |zero=>
    simp at F;subst F;refine⟨v,M,rfl,?_,V⟩;rcases W with h|⟨b,p,O,t,m,X,h2⟩
    .exact .inl h
    .refine .inr ⟨b,p,O,t,m,?_,h2⟩;rw[XN hiσ,hσ]at X;rw[<- E];simpa using X
   |succ m=>exact⟨v,M,rfl,W,ih (by simpa using F) M V⟩
theorem J1.ins{P:AK}{o:AM}{H':Qb}{T:Nat}{x y f:Operand}(g:o.op=.insert T x y f)(h:J1 P {o with op:=.mapUpdate T x y f} env H H'):J1 P o env H H':=by
 intro E q σ N a w r;obtain⟨j,d,τ,t,m,B⟩:=h E q σ N a w r;exact⟨j,d,τ,by simpa only[execOp,g]using t,m,B⟩
end
section
variable {P:AK} {o:AM} {env:Env} {H:Qb} {T kt et:Nat} {α β:Type} [DecidableEq α] {ek:α->A} {ev:β->A} {x y:Operand} {i:Nat} {l:AA (α×β)} {k:α} {z:AL} {zA:A}
end
open Go.Sort Go.Proofs Go.Shelf
def Zw(l:AA Int)(i:Int)(m:AA Int):AB (AA Int):=bif AG (0<=i)&&(AG (i<=l.length)&&(Nat.blt 0 m.length&&Nat.ble (l.length+m.length) Yp))then AC (l.take i.toNat++m++l.drop i.toNat)else AF
variable {l:AA Int}
theorem QpX{m r:AA Int}{i:Int}(h:Zw l i m=AC r):∃j:Nat,i=j/\j<=l.length/\0<m.length/\l.length+m.length<=Yp/\r=l.take j++m++l.drop j:=by
 unfold Zw at h;cases q:AG (0<=i)&&(AG (i<=l.length)&&(Nat.blt 0 m.length&&Nat.ble (l.length+m.length) Yp))with
 |false=>rw[q]at h;cases h
 |true=>
  rw[q]at h;cases h;simp only[XX,Vt]at q;obtain⟨g,t,d,f⟩:=q;exact⟨i.toNat,om,om,by simpa using d,XS f,rfl⟩
theorem Jw(b:Nat)(t:TypeId):∀(vs pre f d:AA AL) (w:AJ),f.length=vs.length->w.heap[b]?=AC (.cells (pre++f++d).toArray t (0,0))->
  w.setCells b pre.length vs={w with heap:=w.heap.setIfInBounds b (.cells (pre++vs++d).toArray t (0,0))}
 |[],pre,f,d,w,hl,hb=>by
  have:=VM.1 hl;subst this;rw[World.setCells];obtain⟨h1,h2⟩:=Vf.1 hb;have:w.heap.setIfInBounds b (.cells (pre++[]++d).toArray t (0,0))=w.heap:=by
   apply Array.ext_getElem?;intro i;rw[Vh];by_cases h:b=i
   .subst h;rw[Vv rfl,Vv h1,hb]
   .rw[Vu h]
  rw[this]
 |v::vs,pre,f,d,w,hl,hb=>by
  cases f with
  |nil=>cases hl
  |cons z f=>
   simp[X3,Nat.add_right_cancel_iff]at hl;have hbl:=(Vf.1 hb).1;have g:w.setCell ⟨b,pre.length,AF⟩ v={w with heap:=w.heap.setIfInBounds b (.cells ((pre++[v])++f++d).toArray t (0,0))}:=by
    unfold World.setCell;congr 1;apply Array.ext_getElem?;intro i;rw[Array.getElem?_modify,Vh];by_cases h:b=i
    .subst h;rw[Vv rfl,Vv rfl,Vv hbl,hb];simp
    .rw[Vu h,Vu h]
   rw[World.setCells,g];have:=Jw b t vs (pre++[v]) f d {w with heap:=w.heap.setIfInBounds b (.cells ((pre++[v])++f++d).toArray t (0,0))} hl (by
    rw[Vh,Vv rfl,Vv hbl])
   rw[X5,List.length_singleton]at this;rw[this];simp
theorem T8(l:AA Int):∀v∈l.map (Value.int .i64),v.oneCell'=true:=by
 intro v d;obtain⟨x,_,rfl⟩:=Xe.1 d;rfl
theorem na{ro:Nat->Prop}{σ:Cp}{w:AJ}:∀l:AA Int,LR ro σ w ((l.map λx=>[A.int .i64 x]).flatten) (l.map (Value.int .i64))
 |[]=>rfl
 |x::l=>⟨_,_,rfl,rfl,na l⟩
theorem wF(l:AA Int):∀v∈l.map (Value.int .i64),QA v:=by
 intro v d;obtain⟨x,_,rfl⟩:=Xe.1 d;trivial
theorem oe:∀l:AA Int,allK 1 (l.map λx=>[A.int .i64 x])
 |[]=>trivial
 |_::l=>⟨rfl,oe l⟩
variable {t:Nat}{w:AJ}
theorem Qr7{fr ro:Nat->Prop}{σ:Cp}{B:Ci}{r:AA Int}{W:AJ}{rest:AA AL}(s:Cm fr ro σ [.row t 1 (l.map λx=>[A.int .i64 x]),B] w)
  (j:W.heap=(w.alloc (.cells (r.map (Value.int .i64)++rest).toArray t)).heap)(g:W.os=w.os)(f:W.tape=w.tape)(h:W.output=w.output)(d:w.drawn<=W.drawn):
  Cm fr ro (σ++[AC w.heap.size]) [.dead,B,.row t 1 (r.map λx=>[A.int .i64 x])] W/\Qe fr ro w ro W:=by
 have q:=s.kill 0;obtain⟨m,y⟩:Cm fr ro (σ++[AC w.heap.size]) ([.dead,B]++[.row t 1 (r.map λx=>[A.int .i64 x])]) (w.alloc (.cells (r.map (Value.int .i64)++rest).toArray t))/\Qe fr ro w ro (w.alloc (.cells (r.map (Value.int .i64)++rest).toArray t)):=
  ⟨Cm.allocRow q (oe r) (na r) (wF r),Qe.alloc _ s.roLt s.frLt⟩
 exact⟨m.heap j,y.trans (Qe.heap j g f h d)⟩
theorem sM{fr ro:Nat->Prop}{σ:Cp}{b:Nat}{B:Ci}{r:AA Int}{f rest:AA AL}(s:Cm fr ro σ [.row t 1 (l.map λx=>[A.int .i64 x]),B] w)(d:σ[0]?=AC (AC b))
  (g:w.heap[b]?=AC (.cells f.toArray t (0,0)))(hl:(r.map (Value.int .i64)++rest).length=f.length):
  Cm fr ro (σ++[AC b]) [.dead,B,.row t 1 (r.map λx=>[A.int .i64 x])] {w with heap:=w.heap.setIfInBounds b (.cells (r.map (Value.int .i64)++rest).toArray t (0,0))}/\
   Qe fr ro w ro {w with heap:=w.heap.setIfInBounds b (.cells (r.map (Value.int .i64)++rest).toArray t (0,0))}:=by
 obtain⟨h,j⟩:=s.set (x':=.row t 1 (r.map λx=>[A.int .i64 x])) d rfl rfl
  (λy m=>Ju g hl y m) (λ_ hex=>⟨_,hex,Js (oe r) (na r) (wF r)⟩)
 exact⟨h.moved rfl d,j⟩
theorem uD{a b:Array AL}(h:a.toList=b.toList):(w.drew.alloc (.cells a t)).heap=(w.alloc (.cells b t)).heap:=by
 rw[Xw.1 h];rfl
theorem Jc(b:Nat):∀(vs:AA AL) (o:Nat) (w:AJ),(w.setCells b o vs).os=w.os/\(w.setCells b o vs).tape=w.tape/\(w.setCells b o vs).output=w.output/\(w.setCells b o vs).drawn=w.drawn
 |[],_,_=>⟨rfl,rfl,rfl,rfl⟩
 |v::vs,o,w=>Jc b vs (o+1) (w.setCell ⟨b,o,AF⟩ v)
theorem uI{h:Array Obj}{a b:Obj}:(h.push a).setIfInBounds h.size b=h.push b:=by
 apply Array.ext_getElem?;intro i;rw[Vh];by_cases q:h.size=i
 .subst q;simp
 .rw[Vu q,Array.getElem?_push,Array.getElem?_push,Vu (λe=>q e.symm),Vu (λe=>q e.symm)]
theorem Qq9{n:Nat}:(Builtin.zeroCells (Value.int .i64 0).cells n).toList.length=n:=by simp[Builtin.zeroCells,Value.cells]
theorem Ql9{c j:Nat}{m:AA Int}(q:j<=l.length):
  (((((w.alloc (.cells (((l.map (Value.int .i64)).take j).toArray++Builtin.zeroCells (Value.int .i64 0).cells (l.length+m.length-j)++Builtin.zeroCells (Value.int .i64 0).cells c) t)).drew.setCells w.heap.size j (m.map (Value.int .i64))).drew).setCells w.heap.size (j+m.length) ((l.map (Value.int .i64)).drop j)).heap)=
   (w.alloc (.cells ((l.take j++m++l.drop j).map (Value.int .i64)++(Builtin.zeroCells (Value.int .i64 0).cells c).toList).toArray t)).heap:=by
 have d:=Qq9 (n:=l.length+m.length-j);generalize(Builtin.zeroCells (Value.int .i64 0).cells (l.length+m.length-j))=Z1 at*;generalize(Builtin.zeroCells (Value.int .i64 0).cells c)=Z2 at*;rw[show(((l.map (Value.int .i64)).take j).toArray++Z1++Z2)=((l.map (Value.int .i64)).take j++Z1.toList.take m.length++(Z1.toList.drop m.length++Z2.toList)).toArray from by
  apply Xw.1;simp[Array.toList_append,Vl];rw[<- Vl (List.take m.length _),XA]]
 have h:((l.map (Value.int .i64)).take j).length=j:=by simp;omega
 have f:=Jw w.heap.size t (m.map (Value.int .i64)) ((l.map (Value.int .i64)).take j) (Z1.toList.take m.length) (Z1.toList.drop m.length++Z2.toList) (w.alloc (.cells ((l.map (Value.int .i64)).take j++Z1.toList.take m.length++(Z1.toList.drop m.length++Z2.toList)).toArray t)).drew (by simp at d⊢;omega) (Yo _ _);rw[h]at f;have g:=Jw w.heap.size t ((l.map (Value.int .i64)).drop j) ((l.map (Value.int .i64)).take j++m.map (Value.int .i64)) (Z1.toList.drop m.length) Z2.toList
  {(w.alloc (.cells ((l.map (Value.int .i64)).take j++Z1.toList.take m.length++(Z1.toList.drop m.length++Z2.toList)).toArray t)).drew with heap:=(w.alloc (.cells ((l.map (Value.int .i64)).take j++Z1.toList.take m.length++(Z1.toList.drop m.length++Z2.toList)).toArray t)).drew.heap.setIfInBounds w.heap.size (.cells ((l.map (Value.int .i64)).take j++m.map (Value.int .i64)++(Z1.toList.drop m.length++Z2.toList)).toArray t (0,0))}.drew (by simp at d⊢;omega) (by
   show((w.heap.push _).setIfInBounds w.heap.size _)[w.heap.size]?=_;simp)
 rw[show((l.map (Value.int .i64)).take j++m.map (Value.int .i64)).length=j+m.length from by simp;omega]at g;rw[f,g];show((w.heap.push _).setIfInBounds w.heap.size _).setIfInBounds w.heap.size _=w.heap.push _;rw[uI,uI];simp[Xf,List.map_take,List.map_drop]
theorem Qm1{P:AK}{ρ:Ren}(L:Lays2.n21 P ρ){t2:Nat}{m r:AA Int}{i:Int}(h:Zw l i m=AC r):
  C P (ρ.f 21) [.osl 0 0 l.length 1,.int .i64 i,.osl 1 0 m.length 1] [.row (ρ.t 3) 1 (l.map λx=>[A.int .i64 x]),.row t2 1 (m.map λx=>[A.int .i64 x])]
   (λa H=>a=.osl 2 0 r.length 1/\H=[.dead,.row t2 1 (m.map λx=>[A.int .i64 x]),.row (ρ.t 3) 1 (r.map λx=>[A.int .i64 x])]):=by
 obtain⟨j,rfl,hj,hm,ac,rfl⟩:=QpX h;intro fr X σ vals w s hv;obtain⟨v0,r0,rfl,am,v1,r1,rfl,ai,v2,r2,rfl,aj,hr⟩:=hv;cases(show r2=[]from hr);cases(show v1=.int .i64 (j:Int)from ai);have ao:Yp=4294967296:=rfl;have aa:σ.length=2:=s.len;rcases aj with⟨h0,_⟩|⟨N,vp,vc,vt,vm,g1,rfl,g2,g3,g4,g5⟩
 .omega
 obtain rfl:vp=0:=by have:=g2 om;omega
 obtain⟨aq,f1,f2⟩:=s.blk 1 _ _ g1 rfl;obtain⟨ak,rfl⟩:=nk f2;have G:∀(k:Nat) v,(m.map (Value.int .i64))[k]?=AC v->w.cell? ⟨N,0+k,AF⟩=AC v:=by
  intro k v hk;unfold World.cell?;simp only[f1,Option.isSome_none,Xi,if_false,Xx];rw[fO,XN (by rw[X4];have:=(XM.1 hk).1;rw[X4]at this;exact this)];exact hk
 have F:(l.take j++m++l.drop j).length=l.length+m.length:=by simp;omega
 have B:∀(c0:Nat) (W:AJ) (zs:AA AL) (e:AL),zs.length=grownCap w (l.length+m.length) c0 (ρ.t 3)-(l.length+m.length)->W.heap=(w.alloc (.cells ((l.take j++m++l.drop j).map (Value.int .i64)++zs).toArray (ρ.t 3))).heap->W.os=w.os->W.tape=w.tape->W.output=w.output->w.drawn<=W.drawn->
   e=.slice (AC ⟨w.heap.size,0,AF⟩) (l.length+m.length) (grownCap w (l.length+m.length) c0 (ρ.t 3))->
   ∃v r H' ro' τ,Ending.returned e=.returned v/\(r=.osl 2 0 (l.take j++m++l.drop j).length 1/\H'=[.dead,.row t2 1 (m.map λx=>[A.int .i64 x]),.row (ρ.t 3) 1 ((l.take j++m++l.drop j).map λx=>[A.int .i64 x])])/\Cm fr ro' (σ++τ) H' W/\VR ro' (σ++τ) W r v/\Qe fr X w ro' W:=by
  intro c0 W zs e hz hh hos htp hou hdr he;obtain⟨s1,e1⟩:=Qr7 s hh hos htp hou hdr;have ae:=grownCap_ge w (l.length+m.length) c0 (ρ.t 3);refine⟨_,_,_,X,[AC w.heap.size],rfl,⟨rfl,rfl⟩,s1,?_,e1⟩;rw[he];refine .inr ⟨w.heap.size,0,_,ρ.t 3,((l.take j++m++l.drop j).map (Value.int .i64)++zs).length,?_,by rw[F],λ_=>sq,⟨by rw[F];exact ae,grownCap_le_maxLen _ _ _ _ (by unfold maxLen;omega)⟩,?_,?_⟩
  .rw[XO om,aa];rfl
  .unfold World.shape?;rw[hh,Yo];simp
  .rw[X5,X4,F,hz];omega
 have fin:∀{W:AJ} {b y Y T:Nat} (z:Nat),l.length+m.length<=y->y<=9223372036854775807->W.shape? b=AC (Y,T)->(0+y)*1<=T->z=l.length+m.length->VR X (σ++[AC b]) W (.osl 2 0 (l.take j++m++l.drop j).length 1) (.slice (AC ⟨b,0,AF⟩) z y):=by
  intro W b y Y T z h1 h2 h3 h4 h5;refine .inr ⟨b,0,y,Y,T,?_,by rw[F,h5],λ_=>sq,⟨by rw[F];exact h1,h2⟩,h3,h4⟩;rw[XO om,aa];rfl
 rcases am with⟨h0,rfl⟩|⟨b,p,y,Y,T,q1,rfl,q2,q3,q4,q5⟩
 .have ah:l=[]:=VM.1 h0;subst ah;obtain rfl:j=0:=by simpa using hj
  have O:=Any2.slices_Insert_int_end_grow L AF 0 0 N 0 m.length vc [] (m.map (Value.int .i64)) w hm (XU _) om (by simp at ac;omega) rfl sq (λ_=>rfl) (λa ha=>by cases ha) G (T8 m);refine O.mono ?_;rintro e W ⟨rfl,rfl⟩;refine B 0 _ (Builtin.zeroCells (Value.int .i64 0).cells (grownCap w (0+m.length) 0 (ρ.t 3)-(0+m.length))).toList _ (by simp[Builtin.zeroCells,Value.cells]) ?_ rfl rfl rfl (Nat.le_succ _) sq;exact uD sq
 .obtain⟨q3,M⟩:=q3;obtain⟨an,y1,y2⟩:=s.blk 0 _ _ q1 rfl;obtain⟨d,rfl⟩:=nk y2;have ag:N≠b:=λe=>by
   have:=s.inj 1 0 N _ _ g1 (e▸q1) rfl rfl rfl rfl;omega
  have ar:y<=l.length+d.length:=by
   have:w.shape? b=AC (ρ.t 3,(l.map (Value.int .i64)++d).length):=by unfold World.shape?;rw[y1];simp
   rw[this]at q4;cases q4;simp at q5;omega
  have hp:0<y->p=0:=λq=>by have:=q2 q;omega
  have E:∀k v,(l.map (Value.int .i64)++d)[k]?=AC v->w.cell? ⟨b,0+k,AF⟩=AC v:=by
   intro k v hk;unfold World.cell?;simp only[y1,Option.isSome_none,Xi,if_false,Xx];rw[fO];exact hk
  have R:∀(k:Nat) v,(l.map (Value.int .i64))[k]?=AC v->w.cell? ⟨b,p+k,AF⟩=AC v:=by
   intro k v hk;have J:=(XM.1 hk).1;rw[X4]at J;obtain rfl:=hp om;exact E k v (by rw[XN (by rw[X4];exact J)];exact hk)
  have V:∀k,w.frozen? ⟨b,k,AF⟩=false:=by
   intro k;unfold World.frozen?;simp only[y1];simp
  have ab:∀k,w.frozen? ⟨N,k,AF⟩=false:=by
   intro k;unfold World.frozen?;simp only[f1];simp
  by_cases g:l.length+m.length<=y
  .obtain rfl:=hp om;have ad:∀k,k<l.length+m.length->(w.cell? ⟨b,0+k,AF⟩).isSome=true:=by
    intro k hk;have J:k<(l.map (Value.int .i64)++d).length:=by simp;omega
    rw[E k _ (XL J)];rfl
   by_cases Q:j=l.length
   .subst Q;have O:=Any2.slices_Insert_int_end_room L b 0 l.length y N 0 m.length vc (m.map (Value.int .i64)) w hm g M sq (λk hk=>by simpa[Nat.add_assoc]using ad (l.length+k) om) (λk _=>V _) G (T8 m);refine O.mono ?_;rintro e W ⟨rfl,rfl⟩;have e1:w.setCells b (0+l.length) (m.map (Value.int .i64))={w with heap:=w.heap.setIfInBounds b (.cells ((l.take l.length++m++l.drop l.length).map (Value.int .i64)++d.drop m.length).toArray (ρ.t 3) (0,0))}:=by
     have:=Jw b (ρ.t 3) (m.map (Value.int .i64)) (l.map (Value.int .i64)) (d.take m.length) (d.drop m.length) w (by simp;omega) (by rw[Vl,XA];exact y1);rw[X4]at this;rw[Xx,this,Vc,Xr];simp
    rw[e1];obtain⟨s2,e2⟩:=sM (r:=l.take l.length++m++l.drop l.length) (rest:=d.drop m.length) s q1 y1 (by simp;omega);exact⟨_,_,_,X,[AC b],rfl,⟨rfl,rfl⟩,s2,fin _ g M (e2.shape _ _ q4) q5 rfl,e2⟩
   .have O:=Any2.slices_Insert_int_shift L b 0 l.length y j N 0 m.length vc (l.map (Value.int .i64)) (m.map (Value.int .i64)) w om hm g M ag sq sq R ad (λk _=>V _) G (T8 l) (T8 m) vt Y vm T g4 q4 om (ab _) (ab _);refine O.mono ?_;rintro e W ⟨rfl,rfl⟩;have e1:(w.drew.setCells b (0+(j+m.length)) ((l.map (Value.int .i64)).drop j)).setCells b (0+j) (m.map (Value.int .i64))={w.drew with heap:=w.drew.heap.setIfInBounds b (.cells ((l.take j++m++l.drop j).map (Value.int .i64)++d.drop m.length).toArray (ρ.t 3) (0,0))}:=by
     have af:b<w.drew.heap.size:=(Vf.1 y1).1;have k1:=Jw b (ρ.t 3) ((l.map (Value.int .i64)).drop j) ((l.map (Value.int .i64)++d).take (j+m.length)) (((l.map (Value.int .i64)++d).drop (j+m.length)).take (l.length-j)) (((l.map (Value.int .i64)++d).drop (j+m.length)).drop (l.length-j)) w.drew (by simp;omega) (by rw[Vl,XA,XA];exact y1);rw[show((l.map (Value.int .i64)++d).take (j+m.length)).length=0+(j+m.length)from by simp;omega]at k1;have k2:=Jw b (ρ.t 3) (m.map (Value.int .i64)) ((l.map (Value.int .i64)++d).take j) (((l.map (Value.int .i64)++d).drop j).take m.length) ((l.map (Value.int .i64)).drop j++(((l.map (Value.int .i64)++d).drop (j+m.length)).drop (l.length-j))) {w.drew with heap:=w.drew.heap.setIfInBounds b (.cells ((l.map (Value.int .i64)++d).take (j+m.length)++(l.map (Value.int .i64)).drop j++((l.map (Value.int .i64)++d).drop (j+m.length)).drop (l.length-j)).toArray (ρ.t 3) (0,0))} (by simp;omega) (by
      show(w.drew.heap.setIfInBounds b _)[b]?=_;rw[Vh,Vv rfl,Vv af,List.take_add];simp only[Vl])
     rw[show((l.map (Value.int .i64)++d).take j).length=0+j from by simp;omega]at k2;rw[k1,k2];simp only[Array.setIfInBounds_setIfInBounds];rw[List.drop_drop,show j+m.length+(l.length-j)=(l.map (Value.int .i64)).length+m.length from by simp;omega,Vd,Va (by simpa using hj)];simp only[Xf,List.map_take,List.map_drop,Vl]
    rw[e1];obtain⟨s2,e2⟩:=sM (w:=w.drew) (r:=l.take j++m++l.drop j) (rest:=d.drop m.length) (s.heap rfl) q1 y1 (by simp;omega);exact⟨_,_,_,X,[AC b],rfl,⟨rfl,rfl⟩,s2,fin _ g M (e2.shape _ _ q4) q5 rfl,(Qe.heap (w:=w) (w':=w.drew) rfl rfl rfl rfl (Nat.le_succ _)).trans e2⟩
  .by_cases Q:j=l.length
   .subst Q;have O:=Any2.slices_Insert_int_end_grow L (AC ⟨b,p,AF⟩) l.length y N 0 m.length vc (l.map (Value.int .i64)) (m.map (Value.int .i64)) w hm q3 om om sq sq (λh=>by cases h) (λa ha k v hk=>by cases ha;rw[UJ];exact R k v hk) G (T8 m);refine O.mono ?_;rintro e W ⟨rfl,rfl⟩;exact B y _ (Builtin.zeroCells (Value.int .i64 0).cells (grownCap w (l.length+m.length) y (ρ.t 3)-(l.length+m.length))).toList _ (by simp[Builtin.zeroCells,Value.cells]) (uD sq) rfl rfl rfl (Nat.le_succ _) rfl
   .have O:=Any2.slices_Insert_int_grow L b p l.length y j N 0 m.length vc (l.map (Value.int .i64)) (m.map (Value.int .i64)) w om hm q3 om om sq sq R G (T8 l) (T8 m);refine O.mono ?_;rintro e W ⟨rfl,rfl⟩;refine B y _ (Builtin.zeroCells (Value.int .i64 0).cells (grownCap w (l.length+m.length) y (ρ.t 3)-(l.length+m.length))).toList _ (by simp[Builtin.zeroCells,Value.cells]) ?_ (by rw[(Jc _ _ _ _).1];exact(Jc _ _ _ _).1) (by rw[(Jc _ _ _ _).2.1];exact(Jc _ _ _ _).2.1) (by rw[(Jc _ _ _ _).2.2.1];exact(Jc _ _ _ _).2.2.1) (by
     rw[(Jc _ _ _ _).2.2.2];show _<=(World.setCells _ _ _ _).drawn+1;rw[(Jc _ _ _ _).2.2.2];exact Nat.le_add_right_of_le (Nat.le_add_right _ _)) rfl
    exact Ql9 (by simpa using hj)
end
section
variable {P:AK}{T e:Nat}{w:AJ}
theorem uL{k:Nat}(E1:∀w,(underlying T).run P w=.ok (.slice e) w)(E2:∀w,(sizeOf e).run P w=.ok k w){ad:AB Addr}{n cap:Nat}{z:Int}(f:n<=cap)(d:0<=z)(h:z<=n):
  (Instr.sliceAt T (.slice ad n cap) AF (AC (.int .i64 z)) (AC (.int .i64 z))).run P w=.ok (.slice (if z.toNat=0 then ad else ad.map (·.add (0*k))) (z.toNat-0) (z.toNat-0)) w:=by
 have g:(Instr.sliceBounds AE n cap AF (AC (.int .i64 z)) (AC (.int .i64 z))).run P w=.ok (0,z.toNat,z.toNat) w:=by
  simp[Instr.sliceBounds,Vp,Vq,Result.andThen,YL d (show z<=cap by omega),YL d (show z<=z.toNat by omega)]
 simp[Instr.sliceAt,Vp,E1,Result.andThen,Instr.slice,g,E2,Vq]
variable {H:Qb}{env:Env}{et:Nat}
theorem Qo7{α:Type}{o:AM}{k b:Nat}{x hi E:Operand}{l r:AA α}{c:Int}(h:Do l 0 c=AC r)(E1:∀w,(underlying T).run P w=.ok (.slice et) w)(E2:∀w,(sizeOf et).run P w=.ok k w)
  (g:o.op=.slice T x AF (AC hi) (AC E):=by rfl)(hx:CS env x=.osl b 0 l.length k:=by rfl)(h1:CS env hi=.int .i64 c:=by rfl)(h2:CS env E=.int .i64 c:=by rfl):
  CY P o env H (.osl b (0+Int.toNat 0) (c.toNat-Int.toNat 0) k):=by
 intro X V σ N a w r;obtain⟨R,B,Q,_⟩:=T4 h;have y:=Qm r x;rw[hx]at y;rcases y with⟨t,f⟩|⟨j,p,M,G,m,t,f,O,⟨J,W⟩,F,L⟩
 .have d:=uL (w:=w) E1 E2 (ad:=AF) (XU 0) B om;refine⟨_,by simp[execOp,g,f,Vp,Xk,Xj,QM r h1,QM r h2,d,Vq];rfl,?_⟩;left;have:c.toNat=0:=om;simp[this]
 .have d:=uL (w:=w) E1 E2 (ad:=AC ⟨j,p,AF⟩) J B Q;refine⟨_,by simp[execOp,g,f,Vp,Xk,Xj,QM r h1,QM r h2,d,Vq];rfl,?_⟩;right;refine⟨j,p,c.toNat,G,m,t,by simp[UJ],λq=>?_,⟨sq,om⟩,F,?_⟩
  .rw[O om];simp
  .refine XW (XD k ?_) L;omega
theorem TC.label{P:AK}{h0 N l:Nat}{env:Env}{H:Qb}{Q:Qx}(h:Q .normal env H):TC P h0 N (.label l) env H Q:=
 λrd fr ro σ a w r hrd=>wpIn_label ⟨_,env,H,ro,σ,fr,rfl,h,r,Qe.refl _ _ _,rfl,DJ.refl _ _ _⟩
theorem Qip{b:Frame}{a:Act}{k:AA Item}{cs:AA Frame}{c:Code}:step P (lone (b.atR a (.code (.scope c)::k)) cs w)=.next (lone (b.atR a (.code c::.inScope c::k)) cs w):=
 step_lone_go (by simp[stepG,stepG.exec,Frame.atR])
theorem Qgl{b:Frame}{a:Act}{k:AA Item}{cs:AA Frame}{c:Code}:step P (lone (b.atR a (.inScope c::k)) cs w)=.next (lone (b.atR a k) cs w):=
 step_lone_go (by simp[stepG,stepG.exec,Frame.atR])
theorem TC.scope{P:AK}{h0 N:Nat}{c:Code}{env:Env}{H:Qb}{Q:Qx}(h:TC P h0 N c env H Q):TC P h0 N (.scope c) env H Q:=by
 intro F E y σ a w r hrd b k cs hro hb f;obtain⟨e,t,m,g,d⟩:=h F E y σ a w r hrd b (.inScope c::k) cs hro hb f;refine⟨e,t,m,g,.of_steps (.one (fenced_calm hb f rfl) Qip) ?_⟩;obtain⟨x,j,H',q,σ',G,B,_⟩:=g;cases e with
 |normal=>exact StepsIn.trans d (.one (fenced_calm hb f rfl) Qgl)
 |exit id=>exact⟨λJ hk=>d.1 J (by rw[exitTo];exact hk;simp),λf hk=>d.2 f (by rw[exitTo];exact hk;simp)⟩
 |ret=>exact d
 |_=>exact B.elim
variable {off:Nat}
theorem vR{o:AM}{f n:Nat}{x:Operand}{m:AA A}{v:A}{fs:Array Field}{h:Field}(t:Yc P T f off n)(E:∀w,(underlying T).run P w=.ok (.struct fs) w)(g:fs[f]?=AC h)(d:∀w,(isAgg h.type).run P w=.ok AD w)
  (y:o.op=.field T x f:=by rfl)(hx:CS env x=.agg m:=by rfl)(hv:m[off]?=AC v:=by rfl):CY P o env H v:=
 CY.field t (λF q B j w=>by
  have:=(B w).symm.trans (E w);cases this;rw[g]at j;cases j;exact d w) y hx hv
variable {es:AA (AA A)}{ro':Nat->Prop}{t:Nat}
section
variable {P:AK} {o:AM} {env:Env} {H:Qb} {fr ro:Nat->Prop} {σ:Cp} {w:AJ}
theorem Qpr{i n j:Nat}{v:AL}(s:Cm fr ro σ H w)(hσ:∀c,σ[i]?=AC (AC c)->ro' c)(hs:∀c,ro c->ro' c)(hH:H[i]?=AC (.row t 1 es))(hl:j*n+n<=es.length)
  (h:VR ro σ w (.osl i (j*n) n 1) v):VR ro' [] w (.rsl 1 ((es.drop (j*n)).take n)) v:=by
 have f:((es.drop (j*n)).take n).length=n:=by simp;omega
 rcases h with⟨rfl,rfl⟩|⟨c,p,g,L,m,x,rfl,y,⟨F,_⟩,J,M⟩
 .exact⟨AF,0,by rw[f],by rw[f];exact XU _,.inl (VM.1 f)⟩
 .refine⟨_,g,by rw[f],by rw[f];exact F,?_⟩;by_cases E:n=0
  .exact .inl (VM.1 (f.trans E))
  .obtain rfl:=y om;obtain⟨l,B,G⟩:=s.blk i _ _ x hH;have q:=(YV (pre:=[]) (by simpa using B) G).keep (ro':=ro') (σ':=[]) (w':=w) ⟨hs,λ_ _=>rfl,λ_ _ q=>q,λ_ _ q=>q⟩ rfl;refine .inr ⟨c,_,rfl,hσ c x,?_⟩;have d:=(q.drop (j*n)).take n;simpa using d
end
def rB(P:AK)(i:Nat):String:=match P.funcs[i]? with|some f=>f.name|none=>""
theorem iq{f:FuncId}{B:Func}(d:(rB P f=="runtime.NumGoroutine")=AD)(h:P.funcs[f]?=AC {B with name:=rB P f}):Go.Proofs.Bears P f B:=⟨_,d,h⟩
def xm(P:AK)(t:Nat):Nat:=match P.underlying t with|some (.slice e)=>e|_=>0
def ql:A->AL
 |.int k n=>.int k n
 |.bool b=>.bool b
 |.str _=>.string ⟨#[]⟩
 |.rsl _ _=>.slice AF 0 0
 |.nils=>.slice AF 0 0
 |.nilp=>.pointer AF
 |.nilm=>.map AF
 |.nilif=>.nilIface
 |_=>.nilFunc
def zA:A->AL
 |.agg r=>.agg (r.map ql).toArray
 |a=>ql a
def kL(P:AK)(F:AA (Nat×AA (Nat×Nat)))(T:GL)(Z:OE)(w:AJ):=
 (F.map λe=>(underlying e.1).run P w,F.map λe=>(P.fieldsOf e.1).toList.map λf=>(f.offset,(sizeOf f.type).run P w),
  T.ty.agg.map λe=>((isAgg e.1).run P w,(sizeOf e.1).run P w),T.ty.zer.map λe=>(zeroValue e.1).run P w,
  T.al.map λe=>(zeroValue e.1).run P w,T.sl.map λt=>(underlying t).run P w,Z.sl.map λe=>((underlying e.1).run P w,(sizeOf e.2.1).run P w))
def kR(P:AK)(F:AA (Nat×AA (Nat×Nat)))(T:GL)(Z:OE)(w:AJ):=
 (F.map λe=>Result.ok (TypeDesc.struct (P.fieldsOf e.1)) w,F.map λe=>e.2.map λx=>(x.1,Result.ok x.2 w),
  T.ty.agg.map λe=>(Result.ok e.2.1 w,Result.ok e.2.2 w),T.ty.zer.map λe=>Result.ok (zA (.agg e.2.1)) w,
  T.al.map λe=>Result.ok (zA e.2) w,T.sl.map λt=>Result.ok (TypeDesc.slice (xm P t)) w,Z.sl.map λe=>(Result.ok (TypeDesc.slice e.2.1) w,Result.ok e.2.2 w))
def kT(F:AA (Nat×AA (Nat×Nat)))(T:GL):Bool:=
 dr F T.ty.fld&&T.ty.zer.all (λe=>iJ (.agg e.2.1) (zA (.agg e.2.1))&&F.contains (e.1,e.2.2))&&T.al.all λe=>iJ e.2 (zA e.2)&&QT e.2&&(QU e.2).all Q1
theorem Sg{α β:Type}{L:AA α}{f g:AJ->α->β}(h:∀w,L.map (f w)=L.map (g w)){e:α}(he:e∈L)(w:AJ):f w e=g w e:=List.map_inj_left.1 (h w) e he
theorem PL.ofK{P:AK}:∀{fs:AA Field} {pl:AA (Nat×Nat)},(∀w:AJ,fs.map (λf=>(f.offset,(sizeOf f.type).run P w))=pl.map λx=>(x.1,Result.ok x.2 w))->PL P fs pl
 |[],[],_=>.nil
 |[],_::_,h=>by cases h default
 |_::_,[],h=>by cases h default
 |f::fs,(a,n)::pl,h=>by
  have h1:=λw=>List.cons.inj (h w);have e:=λw=>Prod.mk.inj (h1 w).1;obtain rfl:f.offset=a:=(e default).1;exact .cons (λw=>(e w).2) (PL.ofK λw=>(h1 w).2)
section
variable {P:AK} {F:AA (Nat×AA (Nat×Nat))} {T:GL} {Z:OE}
theorem QpO(h:kL P F T Z=kR P F T Z):∀e∈F,Sc P e.1 e.2:=λe he=>
 ⟨_,λw=>by simpa using Sg (f:=λw e=>(underlying e.1).run P w) (λw=>(Prod.mk.inj (congrFun h w)).1) he w,PL.ofK λw=>Sg (f:=λw e=>(P.fieldsOf e.1).toList.map λf=>(f.offset,(sizeOf f.type).run P w)) (λw=>(Prod.mk.inj (Prod.mk.inj (congrFun h w)).2).1) he w⟩
theorem I3.ofK(h:kL P F T Z=kR P F T Z)(k:kT F T=AE):I3 P T:=by
 have g:=QpO h;simp only[kT,XX,Xs]at k;refine⟨⟨Qsa g k.1.1,λe d=>?_,λe d=>?_⟩,λe d=>?_,λe d=>?_⟩
 .have:=Sg (f:=λw e=>((isAgg e.1).run P w,(sizeOf e.1).run P w)) (λw=>(Prod.mk.inj (Prod.mk.inj (Prod.mk.inj (congrFun h w)).2).2).1) d;exact⟨λw=>(Prod.mk.inj (this w)).1,λw=>(Prod.mk.inj (this w)).2⟩
 .have:=Sg (f:=λw e=>(zeroValue e.1).run P w) (λw=>(Prod.mk.inj (Prod.mk.inj (Prod.mk.inj (Prod.mk.inj (congrFun h w)).2).2).2).1) d;have q:=k.1.2 e d;exact⟨⟨_,this,IN q.1⟩,g _ (List.contains_iff_mem.1 q.2)⟩
 .have:=Sg (f:=λw e=>(zeroValue e.1).run P w) (λw=>(Prod.mk.inj (Prod.mk.inj (Prod.mk.inj (Prod.mk.inj (Prod.mk.inj (congrFun h w)).2).2).2).2).1) d;have q:=k.2 e d;exact⟨⟨_,this,IN q.1.1⟩,q.1.2,Xs.2 q.2⟩
 .exact⟨_,Sg (f:=λw t=>(underlying t).run P w) (λw=>(Prod.mk.inj (Prod.mk.inj (Prod.mk.inj (Prod.mk.inj (Prod.mk.inj (Prod.mk.inj (congrFun h w)).2).2).2).2).2).1) d⟩
theorem Lh.ofK(h:kL P F T Z=kR P F T Z)(k:∀f∈Z.fn,∀(a:Array AL) (w:AJ),(callFunc f a).run P w=.ok (.enter f a) w):Lh P Z:=⟨λe he=>by
 have:=Sg (f:=λw e=>((underlying e.1).run P w,(sizeOf e.2.1).run P w)) (λw=>(Prod.mk.inj (Prod.mk.inj (Prod.mk.inj (Prod.mk.inj (Prod.mk.inj (Prod.mk.inj (congrFun h w)).2).2).2).2).2).2) he;exact⟨λw=>(Prod.mk.inj (this w)).1,λw=>(Prod.mk.inj (this w)).2⟩,k⟩
theorem Qsp{L:AA Nat}(h:(λ(a:Array AL) (w:AJ)=>L.map λf=>(callFunc f a).run P w)=λa w=>L.map λf=>.ok (.enter f a) w):∀f∈L,∀(a:Array AL) (w:AJ),(callFunc f a).run P w=.ok (.enter f a) w:=
 λf hf a=>Sg (f:=λw f=>(callFunc f a).run P w) (λw=>congrFun (congrFun h a) w) hf
end
section
variable {P:AK}
theorem C1.c{f:Field}{fs:AA Field}{h d m:Nat}{g j:AA AL->Prop}(q:∀h,JX P f.type (h+1) 1 AD g)(x:C1 P fs (h+1) (d+1) m j)(t:Nat.beq f.offset d=true:=by rfl)(hn:f.name≠"_":=by decide):
  C1 P (f::fs) (h+1) d (1+m) (λl=>∃l1 l2,l=l1++l2/\g l1/\j l2):=C1.cons t hn (q h) (λ_=>rfl) x
theorem RF.c1{n:Nat}{T:Type}{e:T->AA A}{wf:T->Prop}{f:Field}{fs:AA Field}{L:Nat}{T2:Type}{g:T2->AA A}{d:T2->Prop}(h:RB P n f.type T e wf)(r:RF P n fs (off+1) L T2 g d)(j:f.offset=off:=by rfl)(hk:P.cellsOf f.type=1:=by kernel_rfl):
  RF P n (f::fs) off L (T×T2) (λp=>e p.1++g p.2) (λp=>wf p.1/\d p.2):=RF.cons j hk h r
end
class Kp {β:Type} (P:AK) (F:AB β) (f:outParam FuncId) (args:outParam (AA A)) (H:outParam Qb) (w:outParam (β->A)) (H1:outParam (β->Qb)):Prop where
 c:∀r,F=AC r->C P f args H (RQ w H1 r)
variable {N:Nat}{args:AA A}{fn:Func}
theorem Kp.b{β:Type}{F:AB β}{f:FuncId}{c:Code}{w:β->A}{H1:β->Qb}(hf:P.funcs[f]?=AC fn)(hb:fn.body=AC c)(hN:fn.ntmps=N)(hA:Nat.ble args.length N=AE)
  (h:∀r,F=AC r->TC P H.length N c (Kv 0 args) H (YI P H.length fn (RQ w H1 r))):Kp P F f args H w H1:=⟨λr e=>jZ hf hb hN hA (h r e)⟩
theorem wn{P:AK}{fn:Func}{tmps:Array AL}{R:Ending->AJ->Prop}{fr ro:Nat->Prop}{σ:Cp}{H:Qb}{tl:AA Deferred}:
  ∀(ds:AA Deferred) (w:AJ),ds.Nodup->(∀d∈ds,∃D,d={target:=.collected D,args:= #[]}/\ ¬ro D/\ ¬fr D/\(∀(i:Nat) (x:Ci),σ[i]?=AC (AC D)->H[i]?=AC x->x.live=AE->False)/\w.heap[D]?=AC (.deferred (AC [])))->
  Cm fr ro σ H w->(∀w',Cm fr ro σ H w'->Qe fr ro w ro w'->LeavesInM Fence.wide 0 P fn tmps R tl .returning w')->LeavesInM Fence.wide 0 P fn tmps R (ds++tl) .returning w
 |[],w,_,_,s,hk=>hk w s (Qe.refl _ _ _)
 |d::ds,w,hn,hd,s,hk=>by
  obtain⟨D,rfl,h1,h2,h3,h4⟩:=hd d sq;obtain⟨n1,n2⟩:=List.nodup_cons.1 hn;obtain⟨s',ev⟩:=s.turn (obj:=.deferred AF) h1 h2 h3 (λy q=>by grind[World.shape?]);refine⟨sq,.inl ⟨D,_,rfl,run_takeDeferred h4,?_⟩⟩;refine wn ds _ n2 (λd' q=>?_) s' (λw' q1 q2=>hk w' q1 (ev.trans q2));obtain⟨D',rfl,g1,g2,g3,g4⟩:=hd d' (by simp[q]);refine⟨D',rfl,g1,g2,g3,(World.putObj_heap_other (λe=>?_)).trans g4⟩
  grind
def Kl(h:Nat):A->Bool
 |.ptr i _=>Nat.blt i h
 |.int _ _=>AE
 |.bool _=>AE
 |.rp _=>AE
 |_=>AD
theorem Kl.take{ro:Nat->Prop}{σ:Cp}{w:AJ}{h:Nat}{a:A}{v:AL}(d:Kl h a=AE)(q:VR ro σ w a v):VR ro (σ.take h) w a v:=by
 cases a with
 |ptr i o=>
  simp only[VR]at q⊢;obtain⟨b,f,g⟩:=q;have:i<h:=by simpa[Kl]using d
  exact⟨b,by rw[List.getElem?_take_of_lt this];exact f,g⟩
 |int k n=>exact q
 |bool b=>exact q
 |rp j=>exact q
 |_=>cases d
theorem belL.take{ro:Nat->Prop}{σ:Cp}{w:AJ}{h:Nat}:∀{la:AA A} {l:AA AL},la.all (Kl h)=AE->LR ro σ w la l->LR ro (σ.take h) w la l
 |[],l,_,q=>q
 |a::r,l,hb,q=>by
  simp only[LR]at q⊢;simp only[List.all_cons,XX]at hb;obtain⟨v,l',h1,h2,h3⟩:=q;exact⟨v,l',h1,Kl.take hb.1 h2,belL.take hb.2 h3⟩
theorem Qe.extTake{fr ro:Nat->Prop}{w':AJ}(h:Qe fr ro w ro' w'){σ σ':Cp}{n:Nat}(e:σ'.take n=σ.take n):Dh ro (σ.take n) w ro' σ' w':=
 ⟨(h.ext σ []).sub,(h.ext σ []).keep,(h.ext σ []).shape,λi b q=>by
  rw[<- e]at q;by_cases hi:i<n
  .rw[List.getElem?_take_of_lt hi]at q;exact q
  .rw[XP (by simp;omega)]at q;cases q⟩
def Z5(h0:Nat)(fr ro:Nat->Prop)(σ:Cp)(w:AJ)(N:Nat)(ds:AA Deferred)(Q0:Qx)(QD:Nat->FuncId->AA A->Qx):Exit->Act->AJ->Prop:=
 λe a' w'=>IB h0 fr ro σ w N ds Q0 e a' w'\/ ∃x env' H' ro' σ' fr' h1 f caps capv,Sx e x/\QD h1 f caps x env' H'/\DT fr' ro' σ' H' env' N a' w'/\Qe fr ro w ro' w'/\σ'.take h0=σ.take h0/\h0<=h1/\
  LR ro' (σ'.take h1) w' caps capv/\DJ fr w ({target:=.fn (.func f) capv.toArray,args:= #[]}::ds) fr' a'.defers
def Iw(P:AK)(h0 N:Nat)(c:Code)(env:Env)(H:Qb)(Q0:Qx)(QD:Nat->FuncId->AA A->Qx):Prop:=
 ∀fr ro σ a w,DT fr ro σ H env N a w->(∀d∈a.defers,¬iX d)->c.wpIn (WF AF) 0 P (Z5 h0 fr ro σ w N a.defers Q0 QD) a w
def Tn(P:AK)(h0 N:Nat)(c:Code)(Q0:Qx)(QD:Nat->FuncId->AA A->Qx):Qx
 |.normal,env,H=>Iw P h0 N c env H Q0 QD
 |.exit id,env,H=>Q0 (.exit id) env H
 |.ret,env,H=>Q0 .ret env H
section
variable {P:AK} {h0 N:Nat} {env env':Env} {H H':Qb} {Q0:Qx} {QD:Nat->FuncId->AA A->Qx} {c c':Code}
theorem bK(h:Iw P h0 N c env H Q0 QD):Tn P h0 N c Q0 QD .normal env H:=h
theorem qo(h:Q0 .ret env H):Tn P h0 N c Q0 QD .ret env H:=h
theorem DJ.noReal{fr fr':Nat->Prop}{ds ds':AA Deferred}(h:DJ fr w ds fr' ds')(k:∀d∈ds,¬iX d):∀d∈ds',¬iX d:=λd hd=>by
 rcases h.ds d hd with q|⟨D,rfl,_⟩
 .exact k d q
 .rintro⟨fv,cap,e⟩;simp at e
theorem Z5.grow{fr j ro B:Nat->Prop}{σ σ1:Cp}{w H:AJ}{ds m:AA Deferred}{e:Exit}{a':Act}{w':AJ}
  (h:Z5 h0 j B σ1 H N m Q0 QD e a' w')(he:Qe fr ro w B H)(hs:σ1.take h0=σ.take h0)(hg:DJ fr w ds j m):Z5 h0 fr ro σ w N ds Q0 QD e a' w':=by
 rcases h with h|⟨x,t,H',E,σ',F,V,f,y,g,T,Q,O,R,M,P,J,L⟩
 .exact .inl (h.grow he hs hg)
 .refine .inr ⟨x,t,H',E,σ',F,V,f,y,g,T,Q,O,he.trans (R.frMono hg.sub),M.trans hs,P,J,?_⟩;have G:DJ fr w ({target:=.fn (.func f) g.toArray,args:= #[]}::ds) j ({target:=.fn (.func f) g.toArray,args:= #[]}::m):=by
   refine⟨hg.sub,hg.new,λd q=>?_,λd q=>?_⟩
   .rcases X9.1 q with rfl|q
    .simp
    .exact X8 _ (hg.kd d q)
   .rcases X9.1 q with rfl|q
    .simp
    .exact(hg.ds d q).imp (X8 _) id
  exact G.trans he.size L
theorem Iw.seq(h:TC P h0 N c env H (Tn P h0 N c' Q0 QD)):Iw P h0 N (.seq c c') env H Q0 QD:=by
 intro L J σ a w r hn;refine wpIn_seq (Code.wpIn_mono ?_ (h AF L J σ a w r HU.none));rintro e G F ⟨x,d,H',f,σ',g,m,t,E,y,B,j⟩;cases e with
 |normal=>
  obtain rfl:x=.normal:=m;exact Code.wpIn_mono (λe a w q=>q.grow y B j) (t g f σ' G F E (j.noReal hn))
 |exit id=>
  obtain rfl:x=.exit id:=m;exact .inl ⟨_,d,H',f,σ',g,rfl,t,E,y,B,j⟩
 |ret=>
  obtain rfl:x=.ret:=m;exact .inl ⟨_,d,H',f,σ',g,rfl,t,E,y,B,j⟩
 |_=>exact m.elim
theorem Iw.le(d:Le h0 env H env' H')(h:Iw P h0 N c env' H' Q0 QD):Iw P h0 N c env H Q0 QD:=by
 intro g m σ a w r hn;obtain⟨f,σ',j,s,t⟩:=d g m σ N a w r;exact Code.wpIn_mono (λe a w q=>q.grow (Q6 s) t (DJ.refl _ _ _)) (h g f σ' a w j hn)
theorem Iw.defer{j h:AM}{d id f:Nat}{caps:AA A}(hv:CY P j env H (.fn (.func f) [] caps))(hh:h0<=H.length)(X:caps.all (Kl H.length)=AE)
  (k:TC P H.length N c' (up env d (.fn (.func f) [] caps)) H (QD H.length f caps))
  (O:j.dst=AC d:=by rfl)(hg1:QB [j,h].toArray j env true:=by rfl)(hg2:QB [j,h].toArray h (up env d (.fn (.func f) [] caps)) true:=by rfl)(hN:Nat.blt d N=true:=by rfl)
  (t:∃ty,h.op=.defer ⟨.value (.tmp d), #[],ty⟩:=by exact⟨_,rfl⟩)(hd2:h.dst=none:=by rfl):Iw P h0 N (.seq (.region id [j,h].toArray AD) c') env H Q0 QD:=by
 intro fr y σ a w r hn;have T:d<N:=by simp_all
 have L:d<a.tmps.size:=by rw[r.size];exact T
 obtain⟨v,F,M⟩:=hv fr y σ N a w r;obtain⟨l1,g,rfl,V,G⟩:=M;obtain rfl:l1=[]:=V;obtain⟨ty,t⟩:=t
 let a1:Act:={a with tmps:=a.tmps.setIfInBounds d (.func (.func f) #[] g.toArray)}
 let D0:Deferred:={target:=.fn (.func f) g.toArray,args:= #[]}
 have J:DT fr y σ H (up env d (.fn (.func f) [] caps)) N a1 w:=⟨r.sim,VR.up (fr:=fr) r.env L ⟨[],g,rfl,rfl,G⟩,by simpa[a1]using r.size,r.defers⟩;have r2:DT fr y σ H (up env d (.fn (.func f) [] caps)) N {a1 with defers:=D0::a.defers} w:=by
  refine⟨J.sim,J.env,J.size,List.nodup_cons.2 ⟨λq=>hn _ q ⟨_,_,rfl⟩,r.defers.1⟩,λd' m=>?_⟩;rcases X9.1 m with rfl|m
  .exact .inr ⟨_,_,rfl⟩
  .exact r.defers.2 d' m
 have he:a1.eval (.tmp d)=.func (.func f) #[] g.toArray:=by
  show(a.tmps.setIfInBounds d _).getD d undef=_
  simp_all
 have E:(execOp a1.eval h).run P w=.ok (.defer D0) w:=by
  simp[execOp,t,resolve,he,Deferred.ofValue,D0]
 refine wpIn_seq (wpIn_region_lit ?_);refine Jt (YJ hg1 r) F ?_;simp only[O,Act.put];unfold Fc wpListIn;rw[Vv (YJ hg2 J)];refine⟨λ_ _=>trivial,?_⟩;have hs:(h.semAt (WF AF).round a1.eval).run P w=.ok (.defer D0) w:=by
  have e:h.semAt (WF AF).round a1.eval=execOp a1.eval h:=rfl;rw[e];exact E
 rw[hs];show Fc P AF [j,h].toArray (Exit.then (Code.wpIn (WF AF) 0 P c' (Z5 h0 fr y σ w N a.defers Q0 QD)) (Z5 h0 fr y σ w N a.defers Q0 QD)) [] (Act.put {a1 with defers:=D0::a.defers} h.dst undef) w;simp only[hd2,Act.put];refine wpListIn_nil ?_;refine Code.wpIn_mono ?_ (k AF fr y σ _ w r2 HU.none);rintro e a' w' ⟨x,B,H',Q,σ',R,z1,z2,z3,Y,W,z6⟩;refine .inr ⟨x,B,H',Q,σ',R,H.length,f,caps,g,z1,z2,z3,Y,?_,hh,?_,z6⟩
 .have:=congrArg (List.take h0) W
  rwa [List.take_take,List.take_take,XC hh]at this
 .have q:=(belL.take X G).mono (Y.extTake W);exact belL.take X q
end
def OG(P:AK)(h0:Nat)(Q:A->Qb->Prop)(h1:Nat)(f:FuncId)(caps:AA A):Qx
 |.normal,env,H=>∃env' H' fD id l,Le h1 env H env' H'/\P.funcs[f]?=AC fD/\fD.body=AC (.region id (l:AA AM).toArray AD)/\(∀args w,(callFunc f args).run P w=.ok (.enter f args) w)/\Nat.ble caps.length fD.ntmps=AE/\WO P h0 fD.ntmps l.toArray l (Kv 0 caps) H' (YI P h0 fD λ_ H=>Q (.tup []) H)
 |_,_,_=>False
variable {H':Qb}{env':Env}{h0:Nat}{l:AA AM}
theorem OG.mk{Q:A->Qb->Prop}{h1:Nat}{f:FuncId}{caps:AA A}{fD:Func}{id:Nat}(hle:Le h1 env H env' H')(hf:P.funcs[f]?=AC fD)(hb:fD.body=AC (.region id l.toArray AD))(eg:∀args w,(callFunc f args).run P w=.ok (.enter f args) w)(hN:Nat.ble caps.length fD.ntmps=AE)
  (h:WO P h0 fD.ntmps l.toArray l (Kv 0 caps) H' (YI P h0 fD λ_ H=>Q (.tup []) H)):OG P h0 Q h1 f caps .normal env H:=⟨env',H',fD,id,l,hle,hf,hb,eg,hN,h⟩
theorem Qkx{f:FuncId}{c:Code}{Q:A->Qb->Prop}
  (hf:P.funcs[f]?=AC fn)(hb:fn.body=AC c)(hN:fn.ntmps=N)(hA:Nat.ble args.length N=AE)(hR:fn.results= #[])
  (h:Iw P H.length N c (Kv 0 args) H (YI P H.length fn Q) (OG P H.length Q)):C P f args H Q:=by
 intro fr ro σ vals w hs hl;have az:=hl.length;have a2:args.length<=N:=by simp_all
 refine(callsIn_wide (n:=0)).1 (callsIn_of_wp_marks hf hb trivial (Code.wpIn_mono ?_ (h fr ro σ _ w ⟨hs,?_,?_,List.nodup_nil,λd y=>by cases y⟩ (λd y=>by cases y))))
 .rintro e a' M hp;have F:∀{σ':Cp},σ'.take H.length=σ.take H.length->σ'=σ++σ'.drop H.length:=by
   intro σ' ht;have e1:σ'.take H.length=σ:=by rw[ht,VL (by rw[hs.len];omega)]
   grind[List.take_append_drop]
  rcases hp with⟨x,ab,H1,ae,σ1,T,h1,h2,h3,h4,h5,h6⟩|⟨x,ab,H1,ae,σ1,T,hh,g,X,j,h1,h2,h3,h4,h5,h8,h7,h6⟩
  .have aq:(∃t H' r,Le H.length ab H1 t H'/\IA P fn t H' r/\Q r H')->LeavesInM Fence.wide 0 P fn a'.tmps (λe M=>
     ∃v' r H' E τ,e=.returned v'/\Q r H'/\Cm fr E (σ++τ) H' M/\VR E (σ++τ) M r v'/\Qe fr ro w E M) a'.defers .returning M:=by
    rintro⟨t,H',r,ad,hr,hq⟩;obtain⟨E,σ',G,L,ht⟩:=ad T ae σ1 N a' M h3;have hσ:=F (ht.trans h5);have s1:Cm fr E σ' H' M:=G.sim.frMono h6.sub;refine JK (ro:=E) (fr:=fr) (σ:=σ') (H:=H') a'.defers M G.defers.1 (λd y=>?_) s1 (λY s2 O=>?_)
    .obtain⟨D,rfl,q'⟩:=(h6.ds d y).resolve_left sq;obtain⟨W,g2⟩:=G.defers.mark y;exact⟨D,rfl,λq=>G.sim.roFr D q W,λq=>(by have:=hs.frLt D q;omega),λi x q1 q2 q3=>(G.sim.own i D x q1 q2 q3).2.2 W,g2⟩
    .have av:DT fr E σ' H' t N {a' with defers:=[]} Y:=⟨s2,λs=>(G.env s).mono (by have:=O.ext σ' [];grind),G.size,List.nodup_nil,λd y=>by cases y⟩;obtain⟨v,e1,e2⟩:=hr fr E σ' N _ Y av;exact⟨v,e1,v,r,H',E,σ'.drop H.length,rfl,hq,hσ▸s2,hσ▸e2,(h4.trans (Q6 L)).trans O⟩
   cases e with
   |normal=>
    obtain rfl:x=.normal:=h1;exact aq h2
   |ret=>
    obtain rfl:x=.ret:=h1;exact aq h2
   |exit id=>
    obtain rfl:x=.exit id:=h1;exact h2.elim
   |_=>exact h1.elim
  .cases e with
   |normal=>
    obtain rfl:x=.normal:=h1;obtain⟨t,H',fD,id,l,ad,gf,gb,eg,gN,hw⟩:=h2;obtain⟨B,σ2,r2,L,ht⟩:=ad T ae σ1 N a' M h3;have aw:LR B σ2 M X j:=by
     rw[<- ht]at h7;exact h7.mono ⟨L,λ_ _=>rfl,λ_ _ q=>q,λi b q=>by
      by_cases hi:i<hh
      .rw[List.getElem?_take_of_lt hi]at q;exact q
      .rw[XP (by simp;omega)]at q;cases q⟩
    have ay:σ2.take H.length=σ.take H.length:=by
     have:=congrArg (List.take H.length) ht;rw[List.take_take,List.take_take,XC h8]at this;exact this.trans h5
    have an:∀b,fr b->T b:=h6.sub;have ah:({target:=.fn (.func g) j.toArray,args:= #[]}:Deferred)∈a'.defers:=h6.kd _ sq;have V:∀d∈a'.defers,d={target:=.fn (.func g) j.toArray,args:= #[]}\/ ∃D,d={target:=.collected D,args:= #[]}/\w.heap.size<=D/\T D/\M.heap[D]?=AC (.deferred (AC [])):=λd y=>by
     rcases h6.ds d y with q|⟨D,rfl,q⟩
     .exact .inl (by simpa using q)
     .obtain⟨W,g2⟩:=r2.defers.mark y;exact .inr ⟨D,rfl,q,W,g2⟩
    have ar:=r2.defers.1;obtain⟨A1,B1,ao⟩:=List.append_of_mem ah;rw[ao]at ar V;show LeavesInM Fence.wide 0 P fn a'.tmps _ a'.defers .returning M;rw[ao];obtain⟨n1,n2,n3⟩:=List.nodup_append.1 ar;obtain⟨n4,n5⟩:=List.nodup_cons.1 n2
    let frA:Nat->Prop:=λb=>T b/\ ∀D,({target:=.collected D,args:= #[]}:Deferred)∈A1->b≠D
    have cond:∀{frX frY roX:Nat->Prop} {σX:Cp} {HX:Qb} {wX:AJ},Cm frX roX σX HX wX->∀D,frX D->¬frY D->wX.heap[D]?=AC (.deferred (AC []))->
      ∃D',({target:=.collected D,args:= #[]}:Deferred)={target:=.collected D',args:= #[]}/\ ¬roX D'/\ ¬frY D'/\(∀(i:Nat) (x:Ci),σX[i]?=AC (AC D')->HX[i]?=AC x->x.live=AE->False)/\wX.heap[D']?=AC (.deferred (AC [])):=
     λs D W g2 g3=>⟨D,rfl,λq=>s.roFr D q W,g2,λi x q1 q2 q3=>(s.own i D x q1 q2 q3).2.2 W,g3⟩
    refine wn (ro:=B) (fr:=frA) (σ:=σ2) (H:=H') A1 M n1 (λd y=>?_) (r2.sim.frMono λb q=>q.1) (λY s2 O=>?_)
    .rcases V d (List.mem_append_left _ y)with rfl|⟨D,rfl,g0,W,g2⟩
     .exact absurd rfl (n3 _ y _ sq)
     .exact cond r2.sim D W (λq=>q.2 D y rfl) g2
    have af:Dh B σ2 M B σ2 Y:=by have:=O.ext σ2 [];grind
    have aa:=aw.mono af;have a4:=aa.length;have a1:X.length<=fD.ntmps:=XS gN;have rD:DT frA B σ2 H' (Kv 0 X) fD.ntmps {tmps:=j.toArray++Array.replicate (fD.ntmps-j.toArray.size) undef,defers:=[]} Y:=by
     refine⟨s2,λs=>?_,?_,List.nodup_nil,λd y=>by cases y⟩
     .have:=e_ (i:=0) [] rfl aa (Array.replicate (fD.ntmps-j.toArray.size) undef) s
      grind
     .grind
    have ac:CallsDIn Fence.wide 0 P g j.toArray .returning Y λe u' J=>u'=.returning/\ ∃v,e=.returned v/\ ∃H3 m σ3,Q (.tup []) H3/\Cm frA m σ3 H3 J/\Qe frA B Y m J/\σ3.take H.length=σ2.take H.length:=by
     refine callsDIn_of_wp (R:=λe J=>∃v,e=.returned v/\ ∃H3 m σ3,Q (.tup []) H3/\Cm frA m σ3 H3 J/\Qe frA B Y m J/\σ3.take H.length=σ2.take H.length) gf gb trivial (wpIn_region_lit (Yq ?_ _ _ _ (hw AF frA B σ2 _ Y rD HU.none)));rintro e a3 J ⟨x,ai,H3,m,σ3,aj,z1,z2,z3,z4,z5,z6,z7⟩;have fin:(∃t H' r,Le H.length ai H3 t H'/\IA P fD t H' r/\Q (.tup []) H')->a3.defers=[]/\ ∃v,(results fD a3.tmps).run P J=.ok v J/\ ∃v',Ending.returned v=.returned v'/\ ∃H3 m σ3,Q (.tup []) H3/\Cm frA m σ3 H3 J/\Qe frA B Y m J/\σ3.take H.length=σ2.take H.length:=by
      rintro⟨a0,H4,r4,y1,y2,y3⟩;obtain⟨ag,σ4,am,y4,y5⟩:=y1 aj m σ3 _ a3 J z3;obtain⟨v,e1,e2⟩:=y2 aj ag σ4 _ a3 J am;exact⟨z6,v,e1,v,rfl,H4,ag,σ4,y3,am.sim.frMono z7.sub,z4.trans (Q6 y4),y5.trans z5⟩
     cases e with
     |normal=>
      obtain rfl:x=.normal:=z1;exact fin z2
     |ret=>
      obtain rfl:x=.ret:=z1;exact fin z2
     |exit id=>
      obtain rfl:x=.exit id:=z1;exact z2.elim
     |_=>exact z1.elim
    refine⟨sq,.inr ⟨(λh=>by simp[Fence.wide]at h),.func g,j.toArray,g,j.toArray,rfl,?_,λ_ _=>trivial,ac.mono ?_⟩⟩
    .have:=eg (#[]++j.toArray) Y;simpa[invoke]using this
    rintro e u' J ⟨rfl,v,rfl,H3,m,σ3,y1,s3,ak,y4⟩;have hσ:=F (y4.trans ay);refine JK (ro:=m) (fr:=fr) (σ:=σ3) (H:=H3) B1 J n5 (λd y=>?_) (s3.frMono λb q=>⟨an b q,λD hD e=>?_⟩) (λw4 s4 ax=>?_)
    .rcases V d (List.mem_append_right _ (X8 _ y))with rfl|⟨D,rfl,g0,W,g2⟩
     .exact absurd y n4
     .have gA:frA D:=⟨W,λD' hD' e=>by subst e;exact n3 _ hD' _ (X8 _ y) rfl⟩;exact cond s3 D gA (λq=>by have:=hs.frLt D q;omega) ((ak.keepFr D gA).trans ((O.keepFr D gA).trans g2))
    .rcases V _ (List.mem_append_left _ hD)with q'|⟨D',e',g0,_⟩
     .simp at q'
     .have:D=D':=by simpa using e'
      have:=hs.frLt b q;omega
    .have ev:Qe fr ro w m w4:=((h4.trans (Q6 L)).trans ((O.trans ak).frMono λb q=>⟨an b q,λD hD e=>by
      rcases V _ (List.mem_append_left _ hD)with q'|⟨D',e',g0,_⟩
      .simp at q'
      .have:D=D':=by simpa using e'
       have:=hs.frLt b q;omega⟩)).trans ax
     exact⟨.tuple #[],by simp[results,hR],.tuple #[],.tup [],H3,m,σ3.drop H.length,rfl,y1,hσ▸s4,⟨[],rfl,rfl⟩,ev⟩
   |ret=>
    obtain rfl:x=.ret:=h1;exact h2.elim
   |exit id=>
    obtain rfl:x=.exit id:=h1;exact h2.elim
   |_=>exact h1.elim
 .intro s;have:=e_ (i:=0) [] rfl hl (Array.replicate (fn.ntmps-vals.toArray.size) undef) s
  grind
 grind
variable {E:Nat}
section
variable {P:AK} {o:AM} {env:Env} {H:Qb} {h0 N:Nat} {Q:Qx}
theorem Qks{α:Type}{i k:Nat}{u:TypeId}{x:Operand}{l:AA α}(G:P.underlying T=AC (.slice E))(B:o.op=.binOp .eql T x (.const (.slice AF 0 0)) u)(hx:CS env x=.osl i 0 l.length k):
  UP P o env H (λv H'=>∃b:Bool,v=.bool b/\(l≠[]->b=AD)/\H'=H):=by
 intro J q σ N a w r;have h:=Qm r x;rw[hx]at h;obtain⟨f,d,h,F⟩:∃f d,a.eval x=.slice f l.length d/\(l≠[]->f.isNone=AD):=by
  rcases h with⟨j,g⟩|⟨b,p,d,t,m,_,g,_⟩
  .exact⟨AF,0,by rw[g,j],λhl=>absurd (List.eq_nil_of_length_eq_zero j) hl⟩
  .exact⟨_,d,g,λ_=>rfl⟩
 refine⟨.bool f.isNone,H,.bool f.isNone,w,q,[],⟨f.isNone,rfl,λhl=>?_,rfl⟩,?_,rfl,by simpa using r.sim,Qe.refl _ _ _⟩
 .grind
 .have y:a.eval (.const (.slice AF 0 0))=.slice AF 0 0:=rfl
  grind[eqGuard,execOp,Sem.run_bind,Result.andThen,Go.run_eql_slice_nil,Sem.run_pure]
theorem QmF{α:Type}{i k d:Nat}{u:TypeId}{x:Operand}{l:AA α}{all:Array AM}{L:AA AM}(f:P.underlying T=AC (.slice E))(hx:CS env x=.osl i 0 l.length k)
  (h:∀b,(l≠[]->b=AD)->WO P h0 N all L (up env d (.bool b)) H Q)
  (g:o.op=.binOp .eql T x (.const (.slice AF 0 0)) u:=by rfl)(hg:QB all o env true:=by rfl)(hd:o.dst=AC d:=by rfl)(hN:Nat.blt d N=true:=by rfl)(hh:Nat.ble h0 H.length=true:=by rfl):WO P h0 N all (o::L) env H Q:=by
 refine ip (by simp_all) hg hd hN (Qks f g hx) ?_
 grind
end
mutual
def roFree:A->Bool
 |.rp _=>AD
 |.rsl _ _=>AD
 |.agg cs=>Sl cs
 |.fn _ a c=>Sl a&&Sl c
 |.iface _ v=>roFree v
 |.tup vs=>Sl vs
 |_=>AE
def Sl:AA A->Bool
 |[]=>AE
 |a::r=>roFree a&&Sl r
end
mutual
theorem VR.roFree{ro ro':Nat->Prop}{σ:Cp}{w:AJ}:∀{a:A} {v:AL},Go.Sw.roFree a=AE->VR ro σ w a v->VR ro' σ w a v
 |.any,_,_,_=>trivial
 |.bool _,_,_,h=>h
 |.int _ _,_,_,h=>h
 |.str _,_,_,h=>h
 |.nilp,_,_,h=>h
 |.ptr _ _,_,_,h=>h
 |.rp _,_,hs,_=>by simp[Go.Sw.roFree]at hs
 |.nils,_,_,h=>h
 |.rsl _ _,_,hs,_=>by simp[Go.Sw.roFree]at hs
 |.osl _ _ _ _,_,_,h=>h
 |.agg cs,v,hs,h=>by
  simp only[VR,Go.Sw.roFree]at h hs⊢;obtain⟨l,h1,h2⟩:=h;exact⟨l,h1,LR.roFree hs h2⟩
 |.fn f a c,v,hs,h=>by
  simp only[VR,Go.Sw.roFree,XX]at h hs⊢;obtain⟨l,l',h1,h2,h3⟩:=h;exact⟨l,l',h1,LR.roFree hs.1 h2,LR.roFree hs.2 h3⟩
 |.nilf,_,_,h=>h
 |.iface t a,v,hs,h=>by
  simp only[VR,Go.Sw.roFree]at h hs⊢;obtain⟨x,h1,h2⟩:=h;exact⟨x,h1,VR.roFree hs h2⟩
 |.nilif,_,_,h=>h
 |.map _,_,_,h=>h
 |.nilm,_,_,h=>h
 |.tup vs,v,hs,h=>by
  simp only[VR,Go.Sw.roFree]at h hs⊢;obtain⟨l,h1,h2⟩:=h;exact⟨l,h1,LR.roFree hs h2⟩
theorem LR.roFree{ro ro':Nat->Prop}{σ:Cp}{w:AJ}:∀{cs:AA A} {l:AA AL},Sl cs=AE->LR ro σ w cs l->LR ro' σ w cs l
 |[],_,_,h=>h
 |a::r,l,hs,h=>by
  simp only[LR,Sl,XX]at h hs⊢;obtain⟨v,l',h1,h2,h3⟩:=h;exact⟨v,l',h1,VR.roFree hs.1 h2,LR.roFree hs.2 h3⟩
end
inductive Tp:Ci->Ci->Prop
 |kc (t:Nat) (cs:List A) (h:Sl cs=AE):Tp (.cells t cs) (.cells t cs)
 |mp (es:List (A×A)):Tp (.fmap es) (.map es)
inductive Ko:Qb->Qb->Prop
 |nil:Ko [] []
 |cons {x y:Ci} {r s:Qb} (h:Tp x y) (k:Ko r s):Ko (x::r) (y::s)
theorem Ko.len{a b:Qb}(h:Ko a b):a.length=b.length:=by induction h<;>simp_all
theorem Ko.at{a b:Qb}(h:Ko a b):∀{i:Nat} {y:Ci},b[i]?=AC y->∃x,a[i]?=AC x/\Tp x y:=by
 induction h with
 |nil=>intro i y q;simp at q
 |cons h k d=>
  intro i y q;cases i with
  |zero=>exact⟨_,rfl,by simp at q;exact q▸h⟩
  |succ i=>simpa using d (by simpa using q)
theorem Tp.live{x y:Ci}(h:Tp x y):y.live=true:=by cases h<;>rfl
theorem Qsz{β:Type}{f:FuncId}{Hf:Qb}{ra:β->A}{r:β}(R:Ko Hf H)(hC:qh P f args Hf ra r)(hs:Yb (ra r)=AE):qh P f args H ra r:=by
 intro fr W σ vals w s hl;have N:σ.length=Hf.length:=s.len.trans R.len.symm
 let lent:Nat->Prop:=λb=>∃(i:Nat) (L:AA (A×A)),σ[i]?=AC (AC b)/\H[i]?=AC (.map L)
 have d:∀b,lent b->b<w.heap.size/\ ¬W b/\ ¬fr b:=λb ⟨i,L,g,E⟩=>s.own i b _ g E rfl
 let roF:Nat->Prop:=λb=>W b\/lent b
 have M:Dh W σ w roF σ w:=⟨λ_ q=>.inl q,λ_ _=>rfl,λ_ _ q=>q,λ_ _ q=>q⟩;have sF:Cm fr roF σ Hf w:=by
  refine⟨N,s.roOk.to (λ_ q=>.inl q) (λ_ _=>rfl) (λb q=>q.elim (s.roLt b) λq=>(d b q).1),s.frLt,λb q=>q.elim (s.roFr b) λq=>(d b q).2.2,λi b x g E Y=>?_,λi j b x y g E Y h4 h5 h6=>?_,λi o x g E=>?_⟩
  all_goals
   have X:∀{i:Nat} {x:Ci},Hf[i]?=AC x->∃y,H[i]?=AC y/\Tp x y:=λ{i x} q=>by
    have:i<H.length:=by rw[<- R.len];exact(XM.1 q).1
    obtain⟨x',m,F⟩:=R.at (XL this);rw[q]at m;cases m;exact⟨_,XL this,F⟩
  .obtain⟨y,m,F⟩:=X E;obtain⟨p1,p2,p3⟩:=s.own i b y g m F.live;refine⟨p1,λq=>q.elim p2 ?_,p3⟩;rintro⟨j,L,z1,z2⟩;have:=s.inj i j b _ _ g z1 m z2 F.live rfl;subst this;rw[m]at z2;cases z2;cases F;cases Y
  .obtain⟨y1,m,F⟩:=X Y;obtain⟨y2,q3,q4⟩:=X h4;exact s.inj i j b _ _ g E m q3 F.live q4.live
  .obtain⟨y,m,F⟩:=X E;have J:=s.blk i o y g m;cases F with
   |kc t cs h=>exact J.keep M (λ_ _ _=>rfl)
   |mp L=>
    cases o with
    |none=>exact J.elim
    |some b=>
     obtain⟨l,B,T,Q,V⟩:=J;exact⟨.inr ⟨i,L,g,m⟩,l,B,T,Q.mono ⟨λ_ q=>.inl q,λ_ _=>rfl,λ_ _ q=>q,λ_ _ q=>q⟩,V⟩
 refine Calls.mono (hC fr roF σ vals w sF (hl.mono M)) ?_;rintro e w' ⟨v,r',H1,ab,τ,rfl,⟨rfl,rfl⟩,O,hv,ev⟩;have hτ:τ=[]:=by
  have:=O.len;rw[X5,N]at this;exact List.eq_nil_of_length_eq_zero om
 subst hτ;rw[Vj]at O hv
 let ro2:Nat->Prop:=λb=>ab b/\ ¬lent b
 have G:∀b,W b->ro2 b:=λb q=>⟨ev.sub b (.inl q),λq'=>(d b q').2.1 q⟩;have aa:∀b,lent b->w'.heap[b]?=w.heap[b]? :=λb q=>ev.keepRo b (.inr q);refine⟨v,_,H,ro2,[],rfl,⟨rfl,rfl⟩,?_,?_,⟨G,λb q=>ev.keepRo b (.inl q),ev.keepFr,ev.size,ev.shape,ev.os,ev.tape,ev.output,ev.drawn⟩⟩
 .rw[Vj];refine⟨s.len,s.roOk.to G (λb q=>ev.keepRo b (.inl q)) (λb q=>O.roLt b q.1),O.frLt,λb q=>O.roFr b q.1,λi b y g E Y=>?_,s.inj,λi o y g E=>?_⟩
  .obtain⟨x,m,F⟩:=R.at E;cases F with
   |kc t cs h=>
    obtain⟨p1,p2,p3⟩:=O.own i b _ g m rfl;exact⟨p1,λq=>p2 q.1,p3⟩
   |mp L=>
    have q:lent b:=⟨i,L,g,E⟩;exact⟨Vi (d b q).1 ev.size,λz=>z.2 q,(d b q).2.2⟩
  .obtain⟨x,m,F⟩:=R.at E;cases F with
   |kc t cs h=>
    have J:=O.blk i o _ g m;cases o with
    |none=>exact J
    |some b=>
     obtain⟨l,T,Q,V⟩:=J;exact⟨l,T,Q.roFree h,V⟩
   |mp L=>
    have J:=s.blk i o _ g E;cases o with
    |none=>exact J
    |some b=>
     obtain⟨l,B,T,Q,V⟩:=J;exact⟨l,B,(aa b ⟨i,L,g,E⟩).trans T,Q.mono ⟨G,λb q=>ev.keepRo b (.inl q),ev.shape,λ_ _ q=>q⟩,V⟩
 .exact hv.scalar hs
variable {y:Operand}
theorem i8{o:AM}{n j:Nat}{x:Operand}{q:AA A}{k:IntKind}{i:Int}{v:A}(g:(i==j)=AE)(G:q[j]?=AC v)(L:Nat.blt j n=AE)(O:∀w,(underlying t).run P w=.ok (.array n E) w)(J:∀w,(isAgg E).run P w=.ok AD w)(hs:∀w,(Go.sizeOf E).run P w=.ok 1 w)
  (B:o.op=.index t x y:=by rfl)(hx:CS env x=.agg q:=by rfl)(hy:CS env y=.int k i:=by rfl):CY P o env H v:=by
 intro W V σ N a w r;have d:=Qm r x;rw[hx]at d;obtain⟨m,d,R⟩:=d;have Q:=QM r hy;have e:i=(j:Int):=by simpa using g
 subst e;have f:(j:Int)<n:=by simpa using L
 have M:(0:Int)<=(j:Int):=om;obtain⟨u,T,F⟩:=R.get _ G;refine⟨u,?_,F⟩;generalize a.eval=ρ at*;simp[B,d,Q,Instr.index,O,M,f,hs,J,T,go_sem];intro h;omega
variable {rows:AA (AA Int)}{u:Nat}{α:Type}
section
variable {P:AK} {o:AM} {env:Env} {H:Qb} {fr ro:Nat->Prop} {σ:Cp} {w:AJ}
def Yt(b:Nat)(rows:AA (AA α)):AA (AA A):=rows.mapIdx λj r=>[A.osl (b+j) 0 r.length 1]
theorem xK(b:Nat)(rows:AA (AA α)):(Yt b rows).length=rows.length:=by simp[Yt]
theorem Jh{α:Type}{b i:Nat}{rows:AA (AA α)}{r:AA α}(h:rows[i]?=AC r):(Yt b rows)[i]?=AC [.osl (b+i) 0 r.length 1]:=by simp[Yt,h]
theorem uT(b:Nat)(rows:AA (AA α))(r:AA α):Yt b (rows++[r])=Yt b rows++[[.osl (b+rows.length) 0 r.length 1]]:=by simp[Yt,List.mapIdx_append]
theorem uU{α:Type}{b i:Nat}{rows:AA (AA α)}{r d:AA α}(h:rows[i]?=AC r)(hl:r.length=d.length):Yt b (rows.set i d)=Yt b rows:=by
 apply List.ext_getElem?;intro j;simp only[Yt,List.getElem?_mapIdx]
 grind
theorem n_{α:Type}{ρ:Nat->Nat}:∀{rows:AA (AA α)} {b b':Nat},(∀j,j<rows.length->ρ (b+j)=b'+j)->NW ρ (Yt b rows)=Yt b' rows
 |[],_,_,_=>rfl
 |r::rows,b,b',h=>by
  have e:∀x:Nat,Yt x (r::rows)=[A.osl x 0 r.length 1]::Yt (x+1) rows:=λx=>by
   simp only[Yt,List.mapIdx_cons,Xy];congr 1;apply List.ext_getElem?;intro j;simp only[List.getElem?_mapIdx];have:x+(j+1)=x+1+j:=om;rw[this]
  have h0:ρ b=b':=by simpa using h 0 sq
  rw[e b,e b',NW,n_ (b':=b'+1) (λj d=>by have:=h (j+1) (by simpa using d);rw[show b+1+j=b+(j+1)from om,this];omega)];simp only[Jg,YM,h0]
def HV(b:Nat)(rows:AA (AA α))(m:Nat):AA (AA A):=Yt b rows++List.replicate m [.nils]
theorem Qne(b:Nat)(m:Nat):HV (α:=α) b [] m=List.replicate m [.nils]:=rfl
theorem uS{α:Type}{b i m:Nat}{rows:AA (AA α)}{r:AA α}(h:rows[i]?=AC r):(HV b rows m)[i]?=AC [.osl (b+i) 0 r.length 1]:=by
 have:=Jh (b:=b) h;have d:=(XM.1 this).1;simp only[HV,XN d,this]
theorem Qpt{α:Type}{b m:Nat}{rows:AA (AA α)}:(HV b rows (m+1))[rows.length]?=AC [.nils]:=by
 simp[HV,xK]
theorem Qnd{α:Type}{b m:Nat}{rows:AA (AA α)}{r:AA α}:(HV b rows (m+1)).set rows.length [.osl (b+rows.length) 0 r.length 1]=HV b (rows++[r]) m:=by
 simp[HV,uT,xK,Xl]
theorem QlE{α:Type}{b m:Nat}{rows:AA (AA α)}{r d:AA α}(hl:r.length=d.length):HV b (rows++[r]) m=HV b (rows++[d]) m:=by
 simp[HV,uT,hl]
def QR(t:Nat)(rows:AA (AA Int)):Qb:=rows.map λr=>.row t 1 (r.map (Q9 .i64))
theorem YA{i:Nat}(pre:Qb){r:AA Int}(h:rows[i]?=AC r):(pre++QR t rows)[pre.length+i]?=AC (.row t 1 (r.map (Q9 .i64))):=by
 rw[XO om];simp[QR,h]
theorem oo{i:Nat}(pre:Qb)(r:AA Int):(pre++QR t rows).set (pre.length+i) (.row t 1 (r.map (Q9 .i64)))=pre++QR t (rows.set i r):=by
 rw[List.set_append_right _ _ om];simp[QR,List.map_set]
theorem QlT(t:Nat)(rows:AA (AA Int))(r:AA Int):QR t (rows++[r])=QR t rows++[.row t 1 (r.map (Q9 .i64))]:=by simp[QR]
theorem vo(ρ:Nat->Nat)(t:Nat)(rows:AA (AA Int)):(QR t rows).map (Q4 ρ)=QR t rows:=by
 simp only[QR,List.map_map];rfl
theorem uV{a:Ci}{m:Nat}{r l:AA Int}(hl:r.length=l.length):
  ([a,.rowr t 1 (HV 2 (rows++[r]) m)]++QR u (rows++[r])).set (2+rows.length) (.row u 1 (l.map (Q9 .i64)))=[a,.rowr t 1 (HV 2 (rows++[l]) m)]++QR u (rows++[l]):=by
 have:=oo (t:=u) (i:=rows.length) [a,.rowr t 1 (HV 2 (rows++[r]) m)] (rows:=rows++[r]) l;rw[show[a,Ci.rowr t 1 (HV 2 (rows++[r]) m)].length=2 from rfl]at this;rw[this,QlE hl];simp
theorem Qps{a:Ci}{i:Nat}{r l:AA Int}(h:rows[i]?=AC r)(hl:r.length=l.length):
  ([a,.rowr t 1 (Yt 2 rows)]++QR u rows).set (2+i) (.row u 1 (l.map (Q9 .i64)))=[a,.rowr t 1 (Yt 2 (rows.set i l))]++QR u (rows.set i l):=by
 rw[uU h hl];exact oo (i:=i) [a,.rowr t 1 (Yt 2 rows)] l
theorem Qnc{a x:Ci}{i:Nat}{r l:AA Int}(h:rows[i]?=AC r)(hl:r.length=l.length):
  ([a,.rowr t 1 (Yt 3 rows),x]++QR u rows).set (3+i) (.row u 1 (l.map (Q9 .i64)))=[a,.rowr t 1 (Yt 3 (rows.set i l)),x]++QR u (rows.set i l):=by
 rw[uU h hl];exact oo (i:=i) [a,.rowr t 1 (Yt 3 rows),x] l
def d9(env:Env):Env->Prop
 |[]=>True
 |(s,a)::r=>lk env s=a/\d9 env r
theorem d9.ok{env:Env}:∀{env':Env},d9 env env'->∀s,lk env' s=.any\/lk env' s=lk env s
 |[],_,s=>.inl rfl
 |(k,a)::r,h,s=>by
  simp only[lk];by_cases q:s=k
  .subst q;rw[VI];exact .inr h.1.symm
  .have:Nat.beq s k=false:=by rw[VP];intro d;exact q (XR d)
   rw[this];exact d9.ok h.2 s
theorem YW(h:d9 env env'):Le h0 env H env' H:=Le.env h.ok
def SU(n:Nat):AA Nat:=0::1::(2+n)::(List.range n).map (2+ ·)
def SY(n:Nat):AA Nat:=0::1::(List.range n).map (3+ ·)
theorem oh(k n:Nat):((List.range n).map (k+ ·)).Nodup:=by
 show List.Pairwise _ _;rw[List.pairwise_map];exact List.nodup_range.imp λh q=>h om
theorem Qpb{a x:Ci}(f:∀ρ,Q4 ρ a=a)(hx:∀ρ,Q4 ρ x=x)(hE:IU (Cu (SU rows.length) (2+rows.length+1)) env env'):
  Le 0 env (([a,.rowr t 1 (Yt 2 rows)]++QR u rows)++[x]) env' ([a,.rowr t 1 (Yt 3 rows),x]++QR u rows):=by
 have hl:(([a,.rowr t 1 (Yt 2 rows)]++QR u rows)++[x]).length=2+rows.length+1:=by simp[QR];omega
 refine mf (SU rows.length) rfl ?_ ?_ (by rw[hl];exact hE)
 .rw[hl,Xf,vo];have e:NW (Cu (SU rows.length) (2+rows.length+1)) (Yt 3 rows)=Yt 2 rows:=n_ λj d=>by
   have:(SU rows.length)[3+j]?=AC (2+j):=by
    rw[show 3+j=j+1+1+1 from om];simp[SU,d]
   simp[Cu,this]
  have g:Q4 (Cu (SU rows.length) (2+rows.length+1)) (.rowr t 1 (Yt 3 rows))=.rowr t 1 (Yt 2 rows):=congrArg (Ci.rowr t 1) e;simp only[Vm,Vn,f,hx,g];simp only[SU,Vm,List.map_map];apply List.ext_getElem?;intro i
  match i with
  |0=>rfl
  |1=>rfl
  |2=>simp[QR];rw[show 2+rows.length=rows.length+1+1 from om];simp
  |i+3=>
   simp only[XG,Xo,Xf,Vm,Vn,VN,Vk];by_cases q:i<rows.length
   .simp[q,QR];rw[show 2+i=i+1+1 from om];simp only[XG];rw[XN (by simpa using q)];simp[q]
   .simp[QR,q]
 .rw[show SU rows.length=0::1::(2+rows.length)::(List.range rows.length).map (2+ ·)from rfl];simp only[List.nodup_cons];exact⟨gq,gq,gq,oh 2 _⟩
theorem QmZ{a x:Ci}(f:∀ρ,Q4 ρ a=a)(hE:IU (Cu (SY rows.length) (3+rows.length)) env env'):
  Le 0 env ([a,.rowr t 1 (Yt 3 rows),x]++QR u rows) env' ([a,.rowr t 1 (Yt 2 rows)]++QR u rows):=by
 have hl:([a,.rowr t 1 (Yt 3 rows),x]++QR u rows).length=3+rows.length:=by simp[QR];omega
 refine mf (SY rows.length) rfl ?_ ?_ (by rw[hl];exact hE)
 .rw[hl,Xf,vo];have e:NW (Cu (SY rows.length) (3+rows.length)) (Yt 2 rows)=Yt 3 rows:=n_ λj d=>by
   have:(SY rows.length)[2+j]?=AC (3+j):=by
    rw[show 2+j=j+1+1 from om];simp[SY,d]
   simp[Cu,this]
  have g:Q4 (Cu (SY rows.length) (3+rows.length)) (.rowr t 1 (Yt 2 rows))=.rowr t 1 (Yt 3 rows):=congrArg (Ci.rowr t 1) e;simp only[Vm,Vn,f,g];simp only[SY,Vm,List.map_map];apply List.ext_getElem?;intro i
  match i with
  |0=>rfl
  |1=>rfl
  |i+2=>
   simp only[XG,Xo,Xf,Vm,Vn,VN,Vk];by_cases q:i<rows.length
   .simp[q,QR];rw[show 3+i=i+1+1+1 from om];simp[q]
   .simp[QR,q]
 .rw[show SY rows.length=0::1::(List.range rows.length).map (3+ ·)from rfl];simp only[List.nodup_cons];exact⟨gq,gq,oh 3 _⟩
theorem QqK{α:Type}{e:α->AA A}{k:Nat}{x:Operand}{G O:IntKind}{n:Int}{zv:α}{l:AA α}{z:AL}{a:A}(h:mk n zv=AC l)(E:ElemTy P T et k)(R:∀w,(zeroValue et).run P w=.ok z w)(f:ZR a z)
  (hk:QT a=AE)(V:QU a=e zv)(g:(QU a).all Q1=AE)(d:Nat.beq (e zv).length k=AE)
  (j:o.op=.makeSlice T x y:=by rfl)(hx:CS env x=.int G n:=by rfl)(hy:CS env y=.int O n:=by rfl):
  Fb P o env H (.osl H.length 0 l.length k) (H++[.rowr et k (l.map e)]):=by
 intro X F σ N act w r;obtain⟨L,J,m,Q,B,M,W⟩:=tN h E R f hk V g d j hx hy r;have hs:=r.sim.allocRowr (t:=et) (rest:=[]) B (m.mono ⟨λ_ q=>q,λ_ _=>rfl,λ_ _ q=>q,λ_ _ q=>by cases q⟩) Q;rw[Vj]at hs;refine⟨_,_,F,[AC w.heap.size],J,.inr ⟨w.heap.size,0,l.length,et,L.length,?_,rfl,λ_=>sq,⟨XU _,om⟩,?_,by rw[M,Xx];exact XU _⟩,hs,Qe.alloc _ r.sim.roLt r.sim.frLt⟩
 .rw[<- r.sim.len];simp
 .unfold World.shape?;rw[Yo];simp
theorem Qgr{n i k f:Nat}{x:Operand}{d:AA (AA A)}{c vs M:AA A}{v:A}(ho:o.op=.store t x y)(hx:CS env x=.ptr i off)(hH:H[i]?=AC (.rowr T k es))(hs:∀w,(sizeOf t).run P w=.ok n w)
  (q:off=e*k+f)(hc:es[e]?=AC c)(B:CS env y=v)(hk:QT v=AE)(Y:QU v=vs)(hn:vs.length=n)(J:vs.all Q1=AE)(hf:Nat.ble (f+n) k=AE)
  (E:splice c f vs=M)(G:es.set e M=d):
  J1 P o env H (H.set i (.rowr T k d)):=by
 intro fr W σ N a w r;have h:=Qm r x;rw[hx]at h;obtain⟨b,h,h2⟩:=h;have O:=Qm r y;rw[B]at O;obtain⟨m,h4,j⟩:=O.cells hk;rw[Y]at j;obtain⟨l,Q,V⟩:=r.sim.blk i _ _ h hH;have aa:f+n<=k:=by simp_all
 have hm:m.length=n:=by rw[j.length,hn]
 have X:e<es.length:=gq;have R:off+n<=l.length:=by
  have:=V.length;have h6:=XD k X
  grind
 have L:=Yi (P:=P) off 0 Q om (j.plain J);have g:=r.sim.set (x':=.rowr T k d) (obj:=.cells (splice l off m).toArray T (0,0)) h hH rfl
  (λy B=>Ju Q (Yg om) y B)
  (λex F=>⟨_,F,by
   subst G E q;exact(V.splice hc j (j.plain J) om).mono ex⟩)
 refine⟨_,W,[],?_,gq,g.2⟩
 simp_all[storeVar,execOp,Instr.storeAt,Instr.sureAddr]
theorem QpQ{i n:Nat}{v:AL}(s:Cm fr ro σ H w)(hσ:∀c,σ[i]?=AC (AC c)->ro' c)(hs:∀c,ro c->ro' c)(hH:H[i]?=AC (.row t 1 es))(hl:es.length=n)
  (h:VR ro σ w (.osl i 0 n 1) v):VR ro' [] w (.rsl 1 es) v:=by
 have:=Qpr (j:=0) (n:=n) s hσ hs hH om (by simpa using h);simpa[<- hl]using this
theorem sJ{ro':Nat->Prop}{b t d:Nat}{α:Type}{e:α->AA A}(s:Cm fr ro σ H w)(hs:∀c,ro c->ro' c):
  ∀(rows:AA (AA α)) (k f:Nat),(∀j r,rows[j]?=AC r->H[b+(k+j)]?=AC (.row t 1 (r.map e))/\ ∀c,σ[b+(k+j)]?=AC (AC c)->ro' c)->
   RR ro σ w d 1 (Yt (b+k) rows) f->RR ro' [] w d 1 (rows.map λr=>[.rsl 1 (r.map e)]) f
 |[],_,_,_,_=>trivial
 |r::rows,k,f,hl,h=>by
  have e1:Yt (b+k) (r::rows)=[A.osl (b+k) 0 r.length 1]::Yt (b+(k+1)) rows:=by
   simp only[Yt,List.mapIdx_cons,Xy];congr 1;apply List.ext_getElem?;intro j;simp only[List.getElem?_mapIdx];have:b+k+(j+1)=b+(k+1)+j:=om;rw[this]
  rw[e1]at h;obtain⟨_,⟨⟨v,y,E,B⟩,_⟩,g⟩:=h;obtain⟨x,F⟩:=hl 0 r rfl;refine⟨rfl,⟨⟨v,y,E,QpQ s F hs x sq B⟩,trivial⟩,sJ (b:=b) (t:=t) s hs rows (k+1) (f+1) (λj q m=>?_) g⟩;have:=hl (j+1) q m
  grind
theorem QqL{W s i b t1 c:Nat}{α:Type}{e:α->AA A}{rows:AA (AA α)}(f:rows.length=c)(X:i<b)(hs:lk env s=.osl i 0 c 1)(hH:H[i]?=AC (.rowr t 1 (Yt b rows)))
  (L:∀j r,rows[j]?=AC r->H[b+j]?=AC (.row t1 1 (r.map e))):
  Le W env H (up env s (.rsl 1 (rows.map (QC 1 e)))) (mc H (i::(List.range c).map (b+ ·))):=by
 intro fr T σ N a w r;obtain⟨g,g1,E,O⟩:=r.sim.shutL (l:=i::(List.range c).map (b+ ·)) (by
   rw[List.nodup_cons];exact⟨by simp;omega,oh b c⟩) (by
  intro j M;simp at M;rcases M with rfl|⟨P,q,rfl⟩
  .exact⟨_,hH,rfl⟩
  .subst f;exact⟨_,L P _ (XL q),rfl⟩)
 refine⟨g,σ,⟨g1,?_,r.size,r.defers⟩,E,rfl⟩;have ext:Dh T σ w g σ w:=⟨E,λ_ _=>rfl,λ_ _ q=>q,λ_ _ q=>q⟩;intro y;simp only[lk];by_cases q:y=s
 .subst q;rw[VI];have h:=r.env y;rw[hs]at h;have Q:rows.map (QC 1 e)=rows.map λr=>[A.rsl 1 (r.map e)]:=by simp[QC]
  rw[Q];rcases h with⟨z,h⟩|⟨d,p,G,t',m,J,h,R,⟨h3,aa⟩,h4,h5⟩
  .subst z;exact⟨AF,0,by simpa[f]using h,by simp[f],.inl (by simpa using f)⟩
  .refine⟨_,G,by simpa[f]using h,by simpa[f]using h3,?_⟩;by_cases B:c=0
   .left;simpa[B]using f
   .right;obtain rfl:=R om;obtain⟨lv,Y,q2⟩:=r.sim.blk i _ _ J hH;refine⟨d,0,sq,O i sq d J,?_⟩;refine sJ (b:=b) (t:=t1) r.sim E rows 0 0 (λj x hx=>?_) (YV (pre:=[]) (by simpa using Y) q2);rw[Xx];refine⟨L j x hx,λV F=>O (b+j) ?_ V F⟩;have:=(XM.1 hx).1;simp;omega
 .have:Nat.beq y s=false:=by
   rw[VP];intro q';exact q (XR q')
  rw[this];exact(r.env y).mono ext
end
section
variable {P:AK} {h0 N:Nat} {all:Array AM} {o:AM} {l:AA AM} {env:Env} {H:Qb} {Q:Qx} {k:AA Kf} {x:Ln} {c:Code}
theorem TG(h:WO P h0 N all l env H Q):WO P h0 N all l env H Q:=h
theorem c9(h:TC P h0 N c env H Q):TC P h0 N c env H Q:=h
theorem lu(h:kq P h0 N k Q x env H):kq P h0 N k Q x env H:=h
theorem c8(h:TC P h0 N c env H (kq P h0 N k Q)):TC P h0 N c env H (kq P h0 N k Q):=h
theorem c7(h:WO P h0 N all l env H (kq P h0 N k Q)):WO P h0 N all l env H (kq P h0 N k Q):=h
theorem K0c(h:TC P h0 N c env H (kq P h0 N [] Q)):TC P h0 N c env H Q:=h
theorem K0w(h:WO P h0 N all l env H (kq P h0 N [] Q)):WO P h0 N all l env H Q:=h
theorem lm(h:Le h0 env H env' H'):Le h0 env H env' H':=h
def gdS(all:Array AM)(o:AM):AB Nat:=match o.guard with
 |some (j,_)=>(all[j]?).bind (·.dst)
 |none=>AF
theorem IsU{α:Type}{b:Bool}{x y:AB α}{r:α}{s:Nat}(hs:gdS all o=AC s)(hb:N0 env s=.mk (.bool b))(h:(bif b then x else y)=AC r)
  (t:b=AE->x=AC r->WO P h0 N all (o::l) (up env s (.bool AE)) H Q)(e:b=AD->y=AC r->WO P h0 N all (o::l) (up env s (.bool AD)) H Q):WO P h0 N all (o::l) env H Q:=Is s h hb t e
end
abbrev ON:=AB (AA Nat)
def Np:AA Nat->Nat->Nat->ON
 |[],_,_=>AC []
 |_::r,0,j=>AC (j::r)
 |a::r,i+1,j=>(Np r i j).bind λr'=>AC (a::r')
mutual
def cP:A->A->AA Nat->ON
 |.ptr i _,.ptr j _,l=>Np l i j
 |.osl i _ _ _,.osl j _ _ _,l=>Np l i j
 |.map i,.map j,l=>Np l i j
 |.agg a,.agg b,l=>S9 a b l
 |.fn _ a c,.fn _ a' c',l=>(S9 a a' l).bind λl'=>S9 c c' l'
 |.iface _ v,.iface _ v',l=>cP v v' l
 |_,_,l=>AC l
def S9:AA A->AA A->AA Nat->ON
 |a::r,b::s,l=>(cP a b l).bind λl'=>S9 r s l'
 |_,_,l=>AC l
end
def xx:Ci->Ci->AA Nat->ON
 |.cells _ a,.cells _ b,l=>S9 a b l
 |_,_,l=>AC l
def Zq(H:Qb):Nat->Qb->AA Nat->ON
 |i,b::r,l=>match QW l i with
  |some p=>match QW H p with
   |some b'=>(xx b b' l).bind λl'=>Zq H (i+1) r l'
   |none=>Zq H (i+1) r l
  |none=>AC l
 |_,[],l=>AC l
def Nx{α:Type}:AA α->AA Nat
 |[]=>[]
 |_::r=>99::Nx r
def N9:AA Nat->ON
 |[]=>AC []
 |a::r=>(QW ixL a).bind λa'=>(N9 r).bind λr'=>AC (a'::r')
def Zp(argsc args:AA A)(Hc H:Qb):ON:=(S9 argsc args (Nx Hc)).bind λl=>(Zq H 0 Hc l).bind N9
def Lu:AA Nat->Bool
 |[]=>AE
 |a::r=> !GD r a&&Lu r
theorem Sh{l:AA Nat}(h:Lu l=AE):l.Nodup:=by
 induction l with
 |nil=>simp
 |cons a r d=>
  simp only[Lu,XX,Bool.not_eq_true']at h;rw[xO]at h;simp only[List.nodup_cons];refine⟨λq=>?_,d h.2⟩;have:r.contains a=true:=by simpa using q
  grind
def dA{α:Type}:AA α->AA Nat->ON
 |_::r,i::s=>(dA r s).bind λl=>AC (i::l)
 |_,_=>AC []
def rP(d:Nat):Env->ON
 |[]=>AC []
 |(s,_)::r=>(rP d r).bind λl=>match GD (d::l) s with
   |true=>AC l
   |false=>AC (s::l)
def rQ:AA AM->AB Nat
 |[]=>AF
 |[o]=>o.dst
 |_::r=>rQ r
def dz:AA AM->Bool
 |[]=>AD
 |o::r=>match o.guard with
  |some _=>AE
  |none=>dz r
def cW:Code->AB Nat
 |.region _ ⟨l⟩ AD=>match dz l with
  |true=>rQ l
  |false=>AF
 |_=>AF
def Tj:AA AM->AA Nat->ON
 |[],l=>AC l
 |o::r,l=>match o.dst with
  |some d=>Tj r (d::l)
  |none=>Tj r l
def SO:Code->AA Nat->ON
 |.seq a b,l=>(SO a l).bind λl'=>SO b l'
 |.cond _ a b,l=>(SO a l).bind λl'=>SO b l'
 |.block _ c,l=>SO c l
 |.loop c,l=>SO c l
 |.region _ ⟨r⟩ _,l=>Tj r l
 |_,l=>AC l
def iL:AA Operand->AA Nat->AA Nat
 |[],l=>l
 |.tmp s::r,l=>iL r (s::l)
 |_::r,l=>iL r l
def bG:AA AM->AA Nat->AA Nat
 |[],l=>l
 |o::r,l=>bG r (iL o.op.operands.toList l)
def OI:Code->AA Nat->AA Nat
 |.seq a b,l=>OI b (OI a l)
 |.cond x a b,l=>OI b (OI a (iL [x] l))
 |.block _ c,l=>OI c l
 |.loop c,l=>OI c l
 |.region _ ⟨r⟩ _,l=>bG r l
 |_,l=>l
def TH(a:Nat):AA Nat->ON
 |[]=>AC [a]
 |b::r=>match Nat.ble a b with
  |true=>AC (a::b::r)
  |false=>(TH a r).bind λr'=>AC (b::r')
def eE(az us:AA Nat):Env->AA Nat->AA Nat->AB (AA Nat×AA Nat)
 |[],v,k=>AC (v,k)
 |(s,_)::r,v,k=>match GD v s||GD k s with
  |true=>eE az us r v k
  |false=>match GD az s with
   |true=>match GD us s with
    |true=>(TH s v).bind λv'=>eE az us r v' k
    |false=>eE az us r v k
   |false=>eE az us r v (s::k)
def kH(c:Code)(env:Env):AB (AA Nat×AA Nat):=(SO c []).bind λaz=>eE az (OI c []) env [] []
class EncS (β:Type) where
 e:β->AA A
instance:EncS Bool:=⟨λb=>[.bool b]⟩
instance:EncS Int:=⟨λb=>[.int .i64 b]⟩
instance {α β:Type} [EncS α] [EncS β]:EncS (α×β):=⟨λp=>EncS.e p.1++EncS.e p.2⟩
def Ni:AA Nat->AA A->Env
 |a::r,b::s=>(a,b)::Ni r s
 |_,_=>[]
def S3:AA Nat->Nat->AA Nat->ON
 |i::s,n+1,_::r=>(S3 s n r).bind λr'=>AC (i::r')
 |_,_,l=>AC l
def de:AA Nat->AA Nat->ON
 |i::s,a::r=>(de s r).bind λr'=>match Nat.beq a 99 with
   |true=>AC (i::r')
   |false=>AC (a::r')
 |_,l=>AC l
def dV(env:Env):Env->AA Nat->ON
 |[],l=>AC l
 |(s,a)::r,l=>(cP a (lk env s) l).bind λl'=>dV env r l'
def xr(h0:Nat)(env:Env)(H:Qb)(env':Env)(H':Qb):ON:=(S3 ixL h0 (Nx H')).bind λl0=>(dV env env' l0).bind λl1=>(Zq H 0 H' l1).bind λl2=>(de ixL l2).bind N9
theorem xU{π:AA Nat}(h:xr h0 env H env' H'=AC π)(hpre:π.take h0=List.range h0)(hH:π.map (λp=>H[p]?)=(H'.map (Q4 (Cu π H.length))).map AC)(hn:Lu π=AE)(hE:IU (Cu π H.length) env env'):Le h0 env H env' H':=Lr π hpre hH (Sh hn) hE
variable {Q:Qx}{β:Type}
variable {E':β->Env}
theorem ClV{d:Nat}{e b:β}{H':β->Qb}(h:AC e=AC b)(g:Le d env H (E' e) (H' e)):I0 d b E' H' Q .normal env H:=by
 cases h;exact g
def S1(env:Env)(H:Qb):AA ResultVar->AB (AA A×AA Nat×AA Nat)
 |[]=>AC ([],[],[])
 |.tmp s::r=>(S1 env H r).bind λp=>AC (lk env s::p.1,p.2.1,s::p.2.2)
 |.cell s _::r=>(S1 env H r).bind λp=>match lk env s with
  |.ptr j _=>match QW H j with
   |some (.cells _ cs)=>AC (.agg cs::p.1,j::p.2.1,s::p.2.2)
   |_=>AC (.any::p.1,j::p.2.1,s::p.2.2)
  |_=>AC (.any::p.1,p.2.1,s::p.2.2)
def qv:A->A->AA Nat->ON
 |.agg a,.agg b,l=>S9 a b l
 |a,.agg [b],l=>cP a b l
 |a,b,l=>cP a b l
def cO:AA A->AA A->AA Nat->ON
 |a::r,b::s,l=>(qv a b l).bind λl'=>cO r s l'
 |_,_,l=>AC l
def xw:A->AA A->AA Nat->ON
 |.tup a,b,l=>cO a b l
 |a,[b],l=>qv a b l
 |_,_,l=>AC l
def N_:AA Nat->AA Nat->ON
 |[],_=>AC []
 |a::r,bs=>match Nat.beq a 99,bs with
  |true,b::bs'=>(N_ r bs').bind λr'=>AC (b::r')
  |true,[]=>(N_ r []).bind λr'=>AC (a::r')
  |false,_=>(N_ r bs).bind λr'=>AC (a::r')
def dd:AA Nat->AA Nat->ON
 |[],_=>AC []
 |a::r,l=>(dd r l).bind λr'=>match GD l a with
  |true=>AC r'
  |false=>AC (a::r')
def qq:AA Nat->ON
 |[]=>AC []
 |a::r=>(qq r).bind λr'=>AC (a::r')
def xq(h0:Nat)(rs:Array ResultVar)(env:Env)(H:Qb)(v:A)(Hc:Qb):AB (AA Nat×AA Nat):=(S1 env H rs.toList).bind λp=>(S3 ixL h0 (Nx Hc)).bind λl0=>(xw v p.1 l0).bind λl1=>(Zq H 0 Hc l1).bind λl2=>(dd p.2.1 l2).bind λbs=>(N_ l2 bs).bind λl3=>(Zq H 0 Hc l3).bind λl4=>(N9 l4).bind λl=>(qq p.2.2).bind λsl=>AC (l,sl)
theorem rM{g:Nat}{E':Env}{β:Type}{e r:β}{w:β->A}{Hc:β->Qb}{π sl:AA Nat}(h:AC e=AC r)(q:xq g fn.results env H (w e) (Hc e)=AC (π,sl))(m:bQ π sl env H=AC (E',H'))
  (j:H'=Hc e)(f:IA P fn E' H' (w e))(d:π.take g=List.range g)(hH:π.map (λp=>H[p]?)=(H'.map (Q4 (Cu π H.length))).map AC)(hn:Lu π=AE)(hE:IU (Cu π H.length) env E'):YI P g fn (RQ w Hc r) .ret env H:=by
 cases h;exact Rx π sl m f ⟨rfl,j⟩ d hH (Sh hn) hE
theorem iV{b n i:Nat}{cs:AA A}(hx:lk env b=.ptr i 0)(hH:H[i]?=AC (.cells T cs))(hl:cs.length=n)(ha:∀w,(isAgg t).run P w=.ok AE w)(hs:∀w,(sizeOf t).run P w=.ok n w):FM P env H (.cell b t) (.agg cs):=QP ha hs hx hH hl
theorem iU{b i:Nat}{x:A}(hx:lk env b=.ptr i 0)(hH:H[i]?=AC (.cells T [x]))(ha:∀w,(isAgg t).run P w=.ok AD w):FM P env H (.cell b t) x:=Yj ha hx hH
def S2(l:AA AM):Nat->AA Nat->ON
 |0,S=>AC S
 |j+1,S=>match GD S j,QW l j with
  |true,AC o=>S2 l j (Qc o++S)
  |_,_=>S2 l j S
def d5(S:AA Nat):Nat->Bool
 |0=>AE
 |j+1=>GD S j&&d5 S j
def dq:Nat->AA AM->Bool
 |_,[]=>AE
 |i,o::r=>GD (Qc o) i&&dq (i+1) r
def qw(l:AA AM):Nat->Nat->AA AM->Nat
 |0,c,_=>c
 |_,c,[]=>c
 |f+1,c,o::r=>match dq c r&&(match S2 l c (Qc o)with
  |some S=>d5 S c
  |none=>AD)with
  |true=>c
  |false=>qw l f (c+1) r
def kP(l:AA AM):AB Nat:=match qw l 100 0 l with
 |0=>AF
 |m=>QW ixL m
section
variable {P:AK} {h0 N:Nat} {all:Array AM} {o:AM} {l:AA AM} {env:Env} {H:Qb} {Q:Qx} {d t:Nat} {x y:Operand} {kk:IntKind} {i:Int}
theorem mR{β:Type}{f:UInt8->AB β}{r:β}{s:AA UInt8}(h:(CN s i).bind f=AC r)(ho:o.op=.index t x y)(hx:CS env x=.str s)(hy:CS env y=.int kk i)(ht:∀w,(underlying t).run P w=.ok .string w)(hg:Qv all o env=AC AE)(hd:o.dst=AC d)(hN:Nat.blt d N=AE)
  (g:∀c,CN s i=AC c->f c=AC r->WO P h0 N all l (up env d (.int .u8 c.toNat)) H Q):WO P h0 N all (o::l) env H Q:=Bd h λc h1 h2=>vV (wU h1 ht ho hx hy) (g c h1 h2) (Qh hg) hd hN
theorem pN{c:Call}{m n:Int}(ho:o.op=.call c)(hc:c={callee:=.builtin .max,args:= #[x,y],argTypes:=c.argTypes})(hx:CS env x=.int kk m)(hy:CS env y=.int kk n)(hg:Qv all o env=AC AE)(hd:o.dst=AC d)(hN:Nat.blt d N=AE)
  (g:WO P h0 N all l (up env d (.int kk (if m<n then n else m))) H Q):WO P h0 N all (o::l) env H Q:=vV (CY.max ho hc hx hy) g (Qh hg) hd hN
theorem pM{c:Call}{m n:Int}(ho:o.op=.call c)(hc:c={callee:=.builtin .min,args:= #[x,y],argTypes:=c.argTypes})(hx:CS env x=.int kk m)(hy:CS env y=.int kk n)(hg:Qv all o env=AC AE)(hd:o.dst=AC d)(hN:Nat.blt d N=AE)
  (g:WO P h0 N all l (up env d (.int kk (if n<m then n else m))) H Q):WO P h0 N all (o::l) env H Q:=vV (CY.min ho hc hx hy) g (Qh hg) hd hN
theorem IxU{Z:OE}{α β:Type}{L:AA α}{f:α->AB β}{r:β}{b n k:Nat}(hZ:Lh P Z)(h:(CN L i).bind f=AC r)(ho:o.op=.indexAddr t x y)(hx:CS env x=.osl b 0 n k)(hy:CS env y=.int kk i)(hn:L.length=n)(ht:JE Z.sl t=AC (et,k))(hg:Qv all o env=AC AE)(hd:o.dst=AC d)(hN:Nat.blt d N=AE)
  (g:∀v,CN L i=AC v->f v=AC r->WO P h0 N all l (up env d (.ptr b (i.toNat*k))) H Q):WO P h0 N all (o::l) env H Q:=Bd h λc h1 h2=>by
 obtain⟨q1,q2⟩:=hZ.sl _ (Yk ht);exact vV (Qw h1 hn q1 q2 ho hx hy) (g c h1 h2) (Qh hg) hd hN
end
def TF:AA Kf->AA Nat->AA Nat
 |[],l=>l
 |.seq c::r,l=>TF r (OI c l)
 |_::r,l=>TF r l
def S0(us:AA Nat):AA Nat->AA Nat->ON
 |[],v=>AC v
 |a::r,v=>match GD us a&& !GD v a with
  |true=>(TH a v).bind λv'=>S0 us r v'
  |false=>S0 us r v
def SH(az:AA Nat):Env->ON
 |[]=>AC []
 |(s,_)::r=>(SH az r).bind λl=>match GD az s||GD l s with
   |true=>AC l
   |false=>AC (s::l)
def dg(env:Env)(c2:Code)(k:AA Kf):Code->AB (AA Nat×AA Nat)
 |.block _ (.loop _)=>AF
 |.seq _ _=>AF
 |.region _ _ _=>AF
 |c=>(SO c []).bind λaz=>(S0 (TF k (OI c2 [])) az []).bind λv=>(SH az env).bind λks=>AC (v,ks)
theorem Un{x:Ln}(h:Q x env H):kq P h0 N [] Q x env H:=h
theorem lz{b:β}{H':β->Qb}{x:Ln}(h:I0 h0 b E' H' Q x env H):I0 h0 b E' H' Q x env H:=h
theorem l5{S B:Type}{b:CJ S B}{E':S->Env}{Hb:S->Qb}{x:Ln}(h:Ku h0 b E' Hb Q x env H):Ku h0 b E' Hb Q x env H:=h
theorem lq{S B:Type}{I:S->Env->Qb->Prop}{d:CJ S B}{x:Ln}(h:Y9 I d Q x env H):Y9 I d Q x env H:=h
theorem dh{b:β}{H':β->Qb}(h:Q .ret env H):I0 h0 b E' H' Q .ret env H:=h
instance:EncS Unit:=⟨λ_=>[]⟩
theorem dj{S B:Type}{b:CJ S B}{s:S}{E':S->Env}{Hb:S->Qb}(h:AC (CJ.k s)=AC b)(g:Le h0 env H (E' s) (Hb s)):Ku h0 b E' Hb Q .normal env H:=JZ (Oi h).symm g
class LookT (P:AK) (T:Nat) {α β:outParam Type} (ek:outParam (α->A)) (ev:outParam (β->A)) (z0:outParam β):Prop where
 c:∃kt et z,JC P kt ek/\P.underlying T=AC (.map kt et)/\(∀w,(zeroValue et).run P w=.ok z w)/\ZR (ev z0) z
section
variable {P:AK} {h0 N:Nat} {all:Array AM} {o:AM} {l:AA AM} {env:Env} {H:Qb} {Q:Qx} {d T i:Nat} {x y z:Operand} {α β γ:Type} [DecidableEq α] {ek:α->A} {ev:β->A} {L:AA (α×β)} {k:α} {z0:β} {r:γ}
theorem fm{f:β->AB γ}[E:LookT P T ek ev z0](h:(AC (Qd L k z0)).bind f=AC r)(ho:o.op=.lookup T x y AD)(hx:CS env x=.map i)(hH:H[i]?=AC (.map (Qi ek ev L)))(hy:CS env y=ek k)(hg:Qv all o env=AC AE)(hd:o.dst=AC d)(hN:Nat.blt d N=AE)
  (g:∀v,AC (Qd L k z0)=AC v->f v=AC r->WO P h0 N all l (up env d (ev v)) H Q):WO P h0 N all (o::l) env H Q:=Bd h λv h1 h2=>by
 obtain⟨kt,et,z,q1,q2,q3,q4⟩:=E.c;exact vV (YO q1 h1 q2 q3 q4 ho hx hH hy) (g v h1 h2) (Qh hg) hd hN
theorem ff{f:AA (α×β)->AB γ}{v:β}[E:LookT P T ek ev z0](h:(AC (QE L k v)).bind f=AC r)(ho:o.op=.mapUpdate T x y z)(hx:CS env x=.map i)(hH:H[i]?=AC (.map (Qi ek ev L)))(hy:CS env y=ek k)(hv:CS env z=ev v)(hdt:Yn (ev v)=AE)(hg:Qv all o env=AC AE)(hd:o.dst=AF)(hh:Nat.ble h0 H.length=AE)
  (g:∀m,AC (QE L k v)=AC m->f m=AC r->WO P h0 N all l env (H.set i (.map (Qi ek ev m))) Q):WO P h0 N all (o::l) env H Q:=Bd h λm h1 h2=>by
 obtain⟨kt,et,z,q1,q2,q3,q4⟩:=E.c;exact vU (Jj q1 h1 hdt q2 ho hx hH hy hv) (g m h1 h2) (Qh hg) hd hh
end
class EncA (β:Type) where
 e:β->A
instance:EncA Bool:=⟨.bool⟩
instance:EncA Int:=⟨.int .i64⟩
inductive L5:{α:Type}->Option α->Prop
 |c {α:Type} {b:Bool} {x y:Option α}:L5 (bif b then x else y)
 |b {α β:Type} {x:Option α} {f:α->Option β}:L5 (x.bind f)
inductive FOs where
 |mk (l:List Operand)
def qu:AA (Nat×Operand)->FOs
 |[]=>.mk []
 |(_,x)::r=>match qu r with
  |.mk l=>.mk (x::l)
def N1(o:AM):AB (Nat×Nat×AA Operand):=match o.op with
 |.buildSlice T n ⟨ps⟩=>match qu ps with
  |.mk l=>AC (T,n,l)
 |_=>AF
theorem pQ{all:Array AM}{o:AM}{k n d:Nat}{xs:AA Operand}(hq:N1 o=AC (T,n,xs))(E:ElemTy P T e k)(ho:o.op=.buildSlice T n (Jl 0 xs).toArray)(hn:xs.length=n)(hsz:Nat.ble (n*(k+1)) 16777216=AE)
  (hk:(xs.all λx=>QT (CS env x))=AE)(hes:Q7 env xs=es)(h4:allK k es)(hp:es.flatten.all Q1=AE)(hdt:Q8 es.flatten=AE)(hg:Qv all o env=AC AE)(hd:o.dst=AC d)(hN:Nat.blt d N=AE)(hh:Nat.ble h0 H.length=AE)
  (g:WO P h0 N all l (up env d (.osl H.length 0 n k)) (H++[.row e k es]) Q):WO P h0 N all (o::l) env H Q:=vH (Fb.lit E ho hn hsz hk hes h4 hp hdt) g (Qh hg) hd hN hh
theorem LnS{all:Array AM}{o:AM}{d:Nat}{s:AA UInt8}(q:SG o env=AC (d,t,.mk (.str s)))(f:∀w,(underlying t).run P w=.ok .string w)(hg:Qv all o env=AC AE)(j:Nat.blt d N=AE)(g:WO P h0 N all l (up env d (.int .i64 s.length)) H Q):WO P h0 N all (o::l) env H Q:=by
 obtain⟨x,y,m,h⟩:=sS q;exact vV (vS m rfl f (QO h)) g (Qh hg) y j
theorem lx{m:Nat}{r:AA AM}{ds:AA Nat}{K:AA AM->Env->Qb->Prop}{xs:AA A}(h:DS P N m l ds env H K r xs):DS P N m l ds env H K r xs:=h
theorem DsI{m:Nat}{r:AA AM}{o:AM}{ds:AA Nat}{K:AA AM->Env->Qb->Prop}{α:Type}{b:Bool}{x y:AB α}{v:α}{xs xt xf:AA A}{j:Nat}{c:Bool}(hj:o.guard=AC (j,c))(hs:QW xs j=AC (.bool b))(h:(bif b then x else y)=AC v)(ht:HD xs j (.bool AE)=.mk xt)(hf:HD xs j (.bool AD)=.mk xf)
  (t:b=AE->x=AC v->DS P N m l ds env H K (o::r) xt)(e:b=AD->y=AC v->DS P N m l ds env H K (o::r) xf):DS P N m l ds env H K (o::r) xs:=DS.is j h hs ht hf t e
theorem Ug{id:Nat}(g:WO P h0 N ⟨l⟩ l env H Q):TC P h0 N (.region id ⟨l⟩ AD) env H Q:=TC.region g
def ic:Cf->AA Kf->AB (Cf×AA Kf)
 |.code (.block _ (.loop _)),_=>AF
 |.code (.seq a b),k=>AC (.code a,.seq b::k)
 |.code (.block id c),k=>AC (.code c,.blo id::k)
 |.code .skip,k=>AC (.out .normal,k)
 |.code .ret,k=>AC (.out .ret,k)
 |.code (.exit id),k=>AC (.out (.exit id),k)
 |.ops _ [],k=>AC (.out .normal,k)
 |.out .normal,.seq c::k=>AC (.code c,k)
 |.out (.exit i),.seq _::k=>AC (.out (.exit i),k)
 |.out .ret,.seq _::k=>AC (.out .ret,k)
 |.out .normal,.blo _::k=>AC (.out .normal,k)
 |.out (.exit i),.blo id::k=>match Nat.beq i id with
  |true=>AC (.out .normal,k)
  |false=>AC (.out (.exit i),k)
 |.out .ret,.blo _::k=>AC (.out .ret,k)
 |_,_=>AF
section
variable {P:AK} {h0 N:Nat} {Q:Qx} {env:Env} {H:Qb}
theorem uN{c f:Cf}{k d:AA Kf}(h:ic c k=AC (f,d))(g:Hd P h0 N f d env H Q):Hd P h0 N c k env H Q:=by
 unfold ic at h;split at h
 .cases h
 .cases h;exact TC.seq g
 .cases h;exact TC.block g
 .cases h;exact TC.skip g
 .cases h;exact TC.ret g
 .cases h;exact TC.exit g
 .cases h;exact WO.nil g
 .cases h;exact bO g
 .cases h;exact bL g
 .cases h;exact bN g
 .cases h;exact dw g
 .split at h
  .rename_i q;cases h;have:=XR q;subst this;exact dx g
  .rename_i q;cases h;exact du q g
 .cases h;exact dv g
 .cases h
end
abbrev Ea:=@Ev.bind
abbrev Ec:=@GV.cons
abbrev Ed:=@FC.refl
abbrev Ee:=@TC.le
abbrev Ef:=@PL.cons
abbrev Eg:=@DS.done
abbrev Eh:=@Ev.and
abbrev Ei:=@C9.done
abbrev Ej:=@GV.refl
abbrev Ek:=@Fb.lit
abbrev El:=@RF.cons
abbrev Em:=@RF.c1
abbrev En:=@Le.trans
abbrev Eo:=@ZR.int
abbrev Ep:=@Le.phantom
abbrev Er:=@WO.le
abbrev Et:=@Ev.eq
abbrev Eu:=@C9.cont
abbrev Ew:=@DK.op
abbrev Ex:=@J1.store
abbrev Ey:=@CY.load
abbrev Ez:=@Ev.const
theorem Zf.{u,v}{α:Sort u}{β:Sort v}{f:α->β}:∀x,f x=f x:=λ_=>rfl
abbrev Ze.{u,v}{α:Sort u}{β:Type v}:α->AA β:=λ_=>[]
end
end Go.Sw
