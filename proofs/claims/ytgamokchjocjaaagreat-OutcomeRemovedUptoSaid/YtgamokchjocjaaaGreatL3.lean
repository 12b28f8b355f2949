/- The rules by which the code is walked, with what they rest on (part 3). -/
import Derived.Test.YtgamokchjocjaaaGreatL2
import Derived.Shelf.Spec.SlicesInsertGrow
import Derived.RangeFuncLeaves
set_option linter.unusedVariables false
set_option linter.unusedSectionVars false
set_option linter.unusedSimpArgs false
namespace Go.Sw
open Option renaming some→AC,none→AF
open Bool renaming false→AD,true→AE
open Decidable renaming decide→AG
open Go renaming World→AJ,Program→AK,Value→AL,Oper→AM
variable {β:Type}
@[reducible] def RQ(w:β->A)(Hc:β->Qd)(r:β):A->Qd->Prop:=λa H=>a=w r/\H=Hc r
@[reducible] def m5(P:AK)(f:FuncId)(args:AA A)(H:Qd)(w:β->A)(r:β):Prop:=C P f args H (RQ w (λ_=>H) r)
structure NH where
 sl:List (Nat×Nat×Nat)
 fn:List Nat
structure Kx (P:AK) (Z:NH):Prop where
 sl:∀e∈Z.sl,(∀w,(underlying e.1).run P w=.ok (.slice e.2.1) w)/\ ∀w,(sizeOf e.2.1).run P w=.ok e.2.2 w
 fn:∀f∈Z.fn,∀(a:Array AL) (w:AJ),(callFunc f a).run P w=.ok (.enter f a) w
variable {F:AB β}{Hc:Qd}{args xs:AA A}{t:Nat}{w:β->A}{α γ:Type}
variable {F':β->AB γ}{L:AA α}{e:α->AA A}
section
variable {P:AK} {Z:NH} {h0 N:Nat} {all:Array AM} {o:AM} {l:AA AM} {env:Env} {H:Qd} {Q:Qz} {d:Nat}
theorem tn(f:Kx P Z){j k:Nat}{n:IntKind}{i:Int}{v:α}(h:CJ L i=AC v)(q:Rl o env=AC (d,t,k,L.map e,n,i))(g:WO P h0 N all l (up env d (.rp (e v))) H Q)
  (x:Hh Z.sl t=AC (j,k))(hg:Yc all o env=AC AE)(y:Nat.blt d N=AE):WO P h0 N all (o::l) env H Q:=by
 obtain⟨z,m⟩:=f.sl _ (Mk x);exact Ix h z m q g (Qy hg) y
theorem Ize(j:Kx P Z){m k:Nat}{n:IntKind}{i:Int}{v:α}{f:AA A}(h:CJ L i=AC v)(he:e v=f)(q:Rl o env=AC (d,t,k,L.map e,n,i))(g:WO P h0 N all l (up env d (.rp f)) H Q)
  (y:Hh Z.sl t=AC (m,k))(hg:Yc all o env=AC AE)(x:Nat.blt d N=AE):WO P h0 N all (o::l) env H Q:=by
 subst he;exact tn j h q g y hg x
theorem Lmz(f:Kx P Z){h k j:Nat}(q:Ri o env=AC (d,t,.mk (.rsl k (L.map e))))(g:WO P h0 N all l (up env d (.int .i64 L.length)) H Q)
  (m:Hh Z.sl t=AC (h,j))(hg:Yc all o env=AC AE)(n:Nat.blt d N=AE):WO P h0 N all (o::l) env H Q:=by
 obtain⟨x,y⟩:=f.sl _ (Mk m);exact mN x q g (Qy hg) n
def J1(Z:NH)(o:AM)(env:Env):AB (Nat×Nat×AA A):=
 match o.dst with
 |none=>AF
 |some d=>match o.op with
  |.call {callee:=.value (.func f),args:=⟨xs⟩,argTypes:=_}=>bif Fb Z.fn f then(match fl (P1 env xs)with|.mk ax=>AC (d,f,ax))else AF
  |.call {callee:=.value (.tmp x),args:=⟨xs⟩,argTypes:=_}=>match DJ env (.tmp x)with
   |.mk (.fn (.func f) vf vc)=>bif Fb Z.fn f then(match fl (vf++(P1 env xs++vc))with|.mk ax=>AC (d,f,ax))else AF
   |_=>AF
  |_=>AF
theorem gR(k:Kx P Z){f:Nat}(h:J1 Z o env=AC (d,f,args)):o.dst=AC d/\C6 P o env H f args:=by
 unfold J1 at h;split at h
 .cases h
 .rename_i E m;split at h
  .rename_i j n t g;cases q:Fb Z.fn j with
   |false=>grind
   |true=>
    rw[q]at h;simp only[Mf]at h;cases h;exact⟨m,C6.fn (k.fn _ (kG q)) g rfl (dK n).symm⟩
  .rename_i x n t g;split at h
   .rename_i j B z y;cases q:Fb Z.fn j with
    |false=>grind
    |true=>
     rw[q]at h;simp only[Mf]at h;cases h;exact⟨m,JL (k.fn _ (kG q)) g rfl (QX y) (by rw[dK])⟩
   .cases h
  .cases h
theorem Czz(m:Kx P Z){r:γ}{f:Nat}{j:AA A}(π:AA Nat)(h:F.bind F'=AC r)(n:∀v,F=AC v->C P f j Hc (RQ w (λ_=>Hc) v))
  (k:J1 Z o env=AC (d,f,args))(g:∀v,F=AC v->F' v=AC r->WO P h0 N all l (up env d (w v)) H Q)(t:∀v,P4 (w v)=AC (.mk (w v)))
  (hargs:args=JB (Ci π H.length) j)(hH:π.map (λp=>H[p]?)=(Hc.map (QW (Ci π H.length))).map AC)(hπ:π.Nodup)(hg:Yc all o env=AC AE)(B:Nat.blt d N=AE)(y:Nat.ble h0 H.length=AE):WO P h0 N all (o::l) env H Q:=by
 obtain⟨v,E,q⟩:=QF h;obtain⟨x,z⟩:=gR (H:=H) m k
 grind[Pc,Qy]
theorem DzZ(y:Kx P Z){K:AA AM->Env->Qd->Prop}{m:Nat}{n:AA AM}{k:AA Nat}{r:γ}{f:Nat}{j:AA A}(π:AA Nat)(h:F.bind F'=AC r)(z:∀v,F=AC v->C P f j Hc (RQ w (λ_=>Hc) v))
  (q:J1 Z o (Q3 (Qj o) 0 k xs env)=AC (d,f,args))(g:∀v,F=AC v->F' v=AC r->DS P N m n k env H K l (xs++[w v]))(E:∀v,P4 (w v)=AC (.mk (w v)))
  (hargs:args=JB (Ci π H.length) j)(hH:π.map (λp=>H[p]?)=(Hc.map (QW (Ci π H.length))).map AC)(hπ:π.Nodup)(hg:Yc n.toArray o (Q3 (Qj o) 0 k xs env)=AC AE)(G:Nat.blt d N=AE)(L:Nat.blt xs.length m=AE):DS P N m n k env H K (o::l) xs:=by
 obtain⟨v,x,B⟩:=QF h;obtain⟨t,J⟩:=gR y q;exact .wo (Pc π t J (z v x) (E v) (WO.nil YW.mk) hargs hH hπ (Qy hg) G (by simp)) (g v x B) t L
theorem ln:Dn H [] []:=trivial
theorem ls{ax d:AA A}{a:A}(k:Dn H ax d)(h:YJ a=true:=by rfl):Dn H (a::ax) (a::d):=⟨.inl ⟨rfl,h⟩,k⟩
theorem lo{ax d:AA A}{i n k:Nat}{es:AA (AA A)}(f:Dn H ax d)(hH:H[i]?=AC (.row t k es):=by rfl)(hn:es.length=n:=by exact X2 ..):Dn H (.osl i 0 n k::ax) (.rsl k es::d):=
 ⟨.inr (by grind),f⟩
theorem Cbz(m:Kx P Z){r:γ}{f:Nat}{j:AA A}(h:F.bind F'=AC r)(n:∀v,F=AC v->C P f j [] (RQ w (λ_=>[]) v))
  (k:J1 Z o env=AC (d,f,args))(x:Dn H args j)(g:∀v,F=AC v->F' v=AC r->WO P h0 N all l (up env d (w v)) H Q)(E:∀v,Ys (w v)=AE)
  (hg:Yc all o env=AC AE)(y:Nat.blt d N=AE):WO P h0 N all (o::l) env H Q:=by
 obtain⟨v,z,B⟩:=QF h;obtain⟨q,t⟩:=gR m k;refine ZI t x (n v z) ?_ ?_ (Qy hg) q y
 .grind
 grind
end
def ixL:AA Nat:=[0,1,2,3,4,5,6,7,8,9,10,11,12,13,14,15,16,17,18,19,20,21,22,23,24,25,26,27,28,29,30,31,32,33,34,35,36,37,38,39,40,41,42,43,44,45,46,47,48,49,50,51,52,53,54,55,56,57,58,59,60,61,62,63]
def SK:AA Nat->AA Nat->Nat->FN
 |a::r,b::s,j=>bif Nat.beq a j then .mk b else SK r s j
 |_,_,j=>.mk j
mutual
def nW(sel:AA Nat):A->Bx
 |.ptr i off=>match SK sel ixL i with
  |.mk j=>.mk (.ptr j off)
 |.osl i o n k=>match SK sel ixL i with
  |.mk j=>.mk (.osl j o n k)
 |.map i=>match SK sel ixL i with
  |.mk j=>.mk (.map j)
 |.fn f a c=>match b5 sel a,b5 sel c with
  |.mk a',.mk c'=>.mk (.fn f a' c')
 |a=>.mk a
def b5(sel:AA Nat):AA A->FL
 |[]=>.mk []
 |a::r=>match nW sel a,b5 sel r with
  |.mk a',.mk r'=>.mk (a'::r')
end
inductive FV where
 |mk (e:Env)
def jh(sel:AA Nat)(env:Env):AA Nat->Env->FV
 |[],nE=>.mk nE
 |s::r,nE=>match Rj env s with
  |.mk a=>match nW sel a,jh sel env r nE with
   |.mk a',.mk e=>.mk ((s,a')::e)
def Mx(H:Qd):AA Nat->AA Nat->AA (Nat×CW)->FB
 |a::r,p::ps,[]=>match YH H a,Mx H r ps []with
  |some b,.mk l=>.mk (b::l)
  |none,.mk l=>.mk l
 |a::r,p::ps,(q,b)::n=>bif Nat.beq p q then(match Mx H r ps n with|.mk l=>.mk (b::l))else(match YH H a,Mx H r ps ((q,b)::n)with
  |some b,.mk l=>.mk (b::l)
  |none,.mk l=>.mk l)
 |_,_,_=>.mk []
def Kw(sel keep:AA Nat)(nE:Env)(nH:AA (Nat×CW))(env:Env)(H:Qd):AB (Env×Qd):=
 match jh sel env keep nE,Mx H sel ixL nH with
 |.mk e,.mk h=>AC (e,h)
variable {E':β->Env}{H':β->Qd}{S:Type}
variable {s0:S}
section
variable {P:AK} {h0 N:Nat} {c:Code} {env:Env} {H:Qd} {Q:Qz}
def KI(h0:Nat)(b:β)(E':β->Env)(H':β->Qd)(Q:Qz):Qz
 |.normal,env,H=>Le h0 env H (E' b) (H' b)
 |.exit id,env,H=>Q (.exit id) env H
 |.ret,env,H=>Q .ret env H
theorem NS{h0:Nat}{b:β}(h:Le h0 env H (E' b) (H' b)):KI h0 b E' H' Q .normal env H:=h
theorem Ct(b:β)(sel keep:AA Nat)(nE:β->Env)(nH:β->AA (Nat×CW))(_:∀b,Kw sel keep (nE b) (nH b) env H=AC (E' b,H' b))(h:TC P h0 N c env H (KI h0 b E' H' Q))(k:∀env H,Le h0 env H (E' b) (H' b)->Q .normal env H):TC P h0 N c env H Q:=
 h.mono λx env' H' q=>by
  cases x with
  |normal=>exact k _ _ q
  |exit id=>exact q
  |ret=>exact q
theorem FT{B:Type}{b:CG S B}{E':S->Env}{H':S->Qd}(sel keep:AA Nat)(nE:S->Env)(nH:S->AA (Nat×CW))(_:∀s,Kw sel keep (nE s) (nH s) env H=AC (E' s,H' s))(h:TC P h0 N c env H (LQ h0 b E' H' Q))(k:∀s env H,b=.k s->Le h0 env H (E' s) (H' s)->Q .normal env H):TC P h0 N c env H Q:=_P E' H' h k
theorem Lp{B:Type}{step:S->AB (CG S B)}{E':S->Env}{H':S->Qd}{m:Nat}{b0:B}(sel keep:AA Nat)(nE:S->Env)(nH:S->AA (Nat×CW))(h:iter step m s0=AC b0)(_:∀s,Kw sel keep (nE s) (nH s) env H=AC (E' s,H' s))(hI:Le h0 env H (E' s0) (H' s0))
  (body:∀s d,step s=AC d->(∀b,d=.d b->b=b0)->TC P h0 N c (E' s) (H' s) (JM (λs env H=>Le h0 env H (E' s) (H' s)) d Q)):TC P h0 N (.loop c) env H Q:=TC.loop E' H' h hI body
end
theorem Oj{S B:Type}{d:CG S B}{x b0:B}(hb:∀b,d=.d b->b=b0)(h:AC (CG.d x)=AC d):x=b0:=hb x (Oi h).symm
variable {H:Qd}{P:AK}{env:Env}{fn:Func}
theorem Rt{d:Nat}{e r:β}{Hc:β->Qd}(h:AC e=AC r)(s:Nat)(π:AA Nat)(f:fn.results= #[.tmp s]:=by rfl)(hpre:π.take d=List.range d:=by rfl)
  (hH:π.map (λp=>H[p]?)=((Hc e).map (QW (Ci π H.length))).map some:=by rfl)(hπ:π.Nodup:=by decide)(hE:Hw (Ci π H.length) env [(s,w e)]:=by exact⟨rfl,trivial⟩):Ja P d fn (RQ w Hc r) .ret env H:=by
 cases h;exact R1 s f (Lr π hpre hH hπ hE)
variable {Q:Qz}
theorem Cl{f:Nat}{e b:β}(h:AC e=AC b)(π:AA Nat)(d:π.take f=List.range f:=by rfl)
  (hH:π.map (λp=>H[p]?)=((H' e).map (QW (Ci π H.length))).map some:=by rfl)(hπ:π.Nodup:=by decide)(hE:Hw (Ci π H.length) env (E' e):=by(repeat' (first|exact trivial|refine⟨rfl,?_⟩))):KI f b E' H' Q .normal env H:=by
 cases h;exact Lr π d hH hπ hE
def Pn(cat:AA Nat):AA (AA (Nat×Nat)):=cat.map λc=>match c with|0=>[(0,0)]|1=>[(0,1)]|2=>[(1,1)]|_=>[(0,0),(1,1)]
def nI(b:Nat)(cat:AA Nat):AA (AA Nat):=cat.map λc=>match c with|2=>[b]|_=>[]
def nQ(cat:AA Nat):AA Bool:=cat.map λc=>match c with|1=>AE|_=>AD
section
variable {P:AK} {T:Fa} {h0 N m b:Nat} {cat:AA Nat} {l:AA AM} {ds:AA Nat} {env:Env} {H H1:Qd} {Q:Qz} {K:AA AM->Env->Qd->Prop}
theorem kM{P:AK}{N:Nat}{l:AA AM}{ds:AA Nat}{xs:AA A}{env0:Env}{hB hE:Nat}:∀(ss:AA (AA (Qd×Qd))) (b:Nat),(∀i s,ss[i]?=AC s->∀p∈s,Jk P N l ds xs env0 hB hE (b+i) p.1 p.2)->CL P N l ds xs env0 hB hE b ss
 |[],b,h=>.nil
 |s::ss,b,h=>.cons (h 0 s rfl) (kM ss (b+1) λi s' hs=>by rw[show b+1+i=b+(i+1)by omega];simp_all)
def fB(P:AK)(N:Nat)(cat:AA Nat)(l:AA AM)(ds:AA Nat)(env:Env)(H H1:Qd)(zs:AA A)(j:Nat):Prop:=
 ∀p∈(Pn cat).getD j [],Jk P N l ds zs env H.length H.length j ([H,H1].getD p.1 []) ([H,H1].getD p.2 [])
def DB(P:AK)(N m:Nat)(cat:AA Nat)(l:AA AM)(ds:AA Nat)(env:Env)(H H1:Qd)(K:AA AM->Env->Qd->Prop)(r:AA AM)(xs:AA A):Prop:=
 r=l.drop xs.length->∃ys,xs.length+ys.length=m/\(∀j,xs.length<=j->j<m->fB P N cat l ds env H H1 (xs++ys) j)/\K (l.drop m) (IU ds (xs++ys) env) H1
def DA(P:AK)(N m:Nat)(cat:AA Nat)(l:AA AM)(ds:AA Nat)(env:Env)(H:Qd)(K:AA AM->Env->Qd->Prop)(r:AA AM)(xs:AA A):Prop:=
 r=l.drop xs.length->∃ys H1,xs.length+ys.length=m/\H.length<=H1.length/\(∀j,xs.length<=j->j<m->fB P N cat l ds env H H1 (xs++ys) j)/\K (l.drop m) (IU ds (xs++ys) env) H1
theorem yp{f:AA A}(g:cat.length=m)(h:∀j,0<=j->j<m->fB P N cat l ds env H H1 f j):CL P N l ds f env H.length (H.length+0) 0 ((Pn cat).map λq=>q.map λp=>([H,H1].getD p.1 [],[H,H1].getD p.2 [])):=by
 refine kM _ 0 λi s d p k=>?_;rw[Xo]at d;cases e:(Pn cat)[i]? with
 |none=>grind
 |some q=>
  rw[e]at d;cases d;obtain⟨n,t,rfl⟩:=Xe.1 k;have x:i<m:=by
   grind[Pn]
  have:=h i (XU _) x n (by grind)
  grind
theorem DA.len(d:H.length<=H1.length):[H,H1].all (λX=>Nat.ble (H.length+0) X.length)=true:=by
 simp_all
theorem Qo3{id:Nat}(m b:Nat)(cat:AA Nat)(t:P.follows .mixedOrders=AE)(q:HA l m N (Ij m 0 l) (nQ cat) (nI b cat) [[],[b]] (Pn cat)=AE)(g:Nat.beq cat.length m=AE)(f:Nat.ble h0 H.length=AE)
  (h:DA P N m cat l (Ij m 0 l) env H (λr e H=>WO P h0 N l.toArray r e H Q) l []):TC P h0 N (.region id l.toArray AE) env H Q:=by
 obtain⟨x,H1,y,n,k,j⟩:=h rfl;have d:=XQ g;exact Yu m 0 _ _ _ _ _ x [H,H1] H1 t q (by grind) rfl f (DA.len n) (by simp) rfl (yp d k) (by simp[Pn,d]) j
theorem ZO{o:AM}{r:AA AM}(f:o::r=l.drop xs.length):l[xs.length]?=AC o/\r=l.drop (xs.length+1):=by
 have d:xs.length<l.length:=by
  grind[List.drop_eq_nil_of_le]
 rw[Xp d]at f
 grind
theorem gC{zs:AA A}{j c:Nat}(d:YH cat j=AC c)(h:∀p∈match c with|0=>[(0,0)]|1=>[(0,1)]|2=>[(1,1)]|_=>[(0,0),(1,1)],Jk P N l ds zs env H.length H.length j ([H,H1].getD p.1 []) ([H,H1].getD p.2 [])):fB P N cat l ds env H H1 zs j:=by
 intro p f
 grind[Mh,Pn]
theorem Mj{hB hE:Nat}{f:AA A}{o:AM}{x:A}{d:Nat}{X X':Qd}(g:l[xs.length]?=AC o)(hdd:JJ hB hE X X'=AE)(h:WO P X.length N l.toArray [o] (Q3 (Qj o) 0 ds xs env) X (YW (up (Q3 (Qj o) 0 ds xs env) d x) X'))(k:o.dst=AC d):
  Jk P N l ds (xs++x::f) env hB hE xs.length X X':=
 .woE o _ d x g k kl (he:=by
  intro s;rcases kW (af:=Qj o) (env0:=env) (s:=s) ds xs (x::f) 0 with⟨j,y,t,m,z,n⟩|q|q
  .grind
  .grind
  grind) (hdd:=hdd) (h:=h)
theorem YV{n:Nat}{X X':Qd}:JJ n n X X'=true:=by unfold JJ;simp
theorem DA.wo{o:AM}{r:AA AM}{x:A}{d:Nat}(h:WO P H.length N l.toArray [o] (Q3 (Qj o) 0 ds xs env) H (YW (up (Q3 (Qj o) 0 ds xs env) d x) H))(k:DA P N m cat l ds env H K r (xs++[x]))
  (y:YH cat xs.length=AC 0:=by rfl)(hd:o.dst=AC d:=by rfl)(hx:Nat.blt xs.length m=true:=by rfl):DA P N m cat l ds env H K (o::r) xs:=by
 intro E;obtain⟨g,B⟩:=ZO E;obtain⟨F,H1,G,t,n,f⟩:=k (by grind);simp[Vj,Vi]at G n f;refine⟨x::F,H1,by grind,t,λj J L=>?_,f⟩;rcases VB xs.length j with q|q
 .grind
 .obtain rfl:j=xs.length:=by omega
  refine gC y λp z=>?_;obtain rfl:=VA.1 z;exact Mj g YV h hd
theorem DA.op{o:AM}{r:AA AM}{x:A}{d:Nat}(h:WO P H.length N l.toArray [o] (Q3 (Qj o) 0 ds xs env) H (YW (up (Q3 (Qj o) 0 ds xs env) d x) H1))(k:DB P N m cat l ds env H H1 K r (xs++[x]))(J:Nat.ble H.length H1.length=true:=by rfl)
  (hc:YH cat xs.length=AC 1:=by rfl)(hd:o.dst=AC d:=by rfl)(hx:Nat.blt xs.length m=true:=by rfl):DA P N m cat l ds env H K (o::r) xs:=by
 intro z;obtain⟨g,y⟩:=ZO z;obtain⟨B,E,n,f⟩:=k (by grind);simp[Vj,Vi]at E n f;refine⟨x::B,H1,by grind,(by simp_all),λj F G=>?_,f⟩;rcases VB xs.length j with q|q
 .grind
 .obtain rfl:j=xs.length:=by omega
  refine gC hc λp t=>?_;obtain rfl:=VA.1 t;exact Mj g YV h hd
theorem jl{o:AM}{r:AA AM}{x x':A}{d:Nat}{H1':Qd}(h:D3 P o (Q3 (Qj o) 0 ds xs env) H x H1)(f:Ku x=.mk x')(g:aY H1=.mk H1')(k:DB P N m cat l ds env H H1' K r (xs++[x']))(j:o.dst=AC d:=by rfl)(hg:Yc ⟨l⟩ o (Q3 (Qj o) 0 ds xs env)=AC true:=by rfl)(hN:Nat.blt d N=true:=by rfl)(hl:Nat.ble H.length H1'.length=true:=by rfl)
  (hc:YH cat xs.length=AC 1:=by rfl)(hx:Nat.blt xs.length m=true:=by rfl):DA P N m cat l ds env H K (o::r) xs:=by
 rw[f8]at f;rw[jx]at g;cases f;cases g;exact .op (W_ (XT _) (Qy hg) j hN h (WO.nil YW.mk)) k hl hc j hx
theorem DB.done{r:AA AM}(d:Nat.beq xs.length m=AE)(h:K r (IU ds xs env) H1):DB P N m cat l ds env H H1 K r xs:=by
 intro k;have e:=XQ d;refine⟨[],by simpa using e,λj g f=>by omega,?_⟩
 grind
theorem DB.add{o:AM}{r:AA AM}{x:A}(n:∀ys,l[xs.length]?=AC o->fB P N cat l ds env H H1 (xs++x::ys) xs.length)(k:DB P N m cat l ds env H H1 K r (xs++[x])):DB P N m cat l ds env H H1 K (o::r) xs:=by
 intro f;obtain⟨g,d⟩:=ZO f;obtain⟨ys,q,j,h⟩:=k (by grind)
 grind
theorem DB.wo1{o:AM}{r:AA AM}{x:A}{d:Nat}(h:WO P H1.length N l.toArray [o] (Q3 (Qj o) 0 ds xs env) H1 (YW (up (Q3 (Qj o) 0 ds xs env) d x) H1))(k:DB P N m cat l ds env H H1 K r (xs++[x]))
  (g:YH cat xs.length=AC 2:=by rfl)(hd:o.dst=AC d:=by rfl):DB P N m cat l ds env H H1 K (o::r) xs:=
 .add (λn f=>gC g λp j=>by
  obtain rfl:=VA.1 j;exact Mj f YV h hd) k
theorem DB.wo2{o:AM}{r:AA AM}{x:A}{d:Nat}(h:WO P H.length N l.toArray [o] (Q3 (Qj o) 0 ds xs env) H (YW (up (Q3 (Qj o) 0 ds xs env) d x) H))(n:WO P H1.length N l.toArray [o] (Q3 (Qj o) 0 ds xs env) H1 (YW (up (Q3 (Qj o) 0 ds xs env) d x) H1))(k:DB P N m cat l ds env H H1 K r (xs++[x]))
  (j:YH cat xs.length=AC 3:=by rfl)(hd:o.dst=AC d:=by rfl):DB P N m cat l ds env H H1 K (o::r) xs:=
 .add (λq g=>gC j λp f=>by
  rcases X7.1 f with rfl|f
  .exact Mj g YV h hd
  .obtain rfl:=VA.1 f;exact Mj g YV n hd) k
def cW(T:Fa)(N m:Nat)(cat:AA Nat)(l:AA AM)(ds:AA Nat)(env:Env)(H:Qd):Nat->Nat->AA AM->AA A->AB (AA AM×AA A)
 |0,_,r,xs=>AC (r,xs)
 |_+1,_,[],_=>AF
 |n+1,i,o::r,xs=>match Nat.blt i m,YH cat i with
  |true,AC 0=>match o.dst with
   |none=>AF
   |some d=>match Nat.blt d N with
    |false=>AF
    |true=>match Yc ⟨l⟩ o (Q3 (Qj o) 0 ds xs env)with
     |none=>AF
     |some AD=>match J0 xs (.tup [])with
      |.mk xs'=>cW T N m cat l ds env H n (i+1) r xs'
     |some AE=>match Hv T o (Q3 (Qj o) 0 ds xs env) H with
      |none=>AF
      |some x=>match J0 xs x with
       |.mk xs'=>cW T N m cat l ds env H n (i+1) r xs'
  |_,_=>AF
theorem kv(hT:IV P T):∀(n i:Nat) {r r':AA AM} {xs xs':AA A},i=xs.length->cW T N m cat l ds env H n i r xs=AC (r',xs')->DA P N m cat l ds env H K r' xs'->DA P N m cat l ds env H K r xs
 |0,i,r,r',xs,xs',_,h,k=>by cases h;exact k
 |n+1,i,[],r',xs,xs',_,h,k=>by cases h
 |n+1,i,o::r,r',xs,xs',hi,h,k=>by
  subst hi;unfold cW at h;split at h
  .rename_i q1 q0;split at h
   .cases h
   .rename_i d hd;split at h
    .cases h
    .rename_i q2;split at h
     .cases h
     .rename_i hw;simp[Jm]at h;exact .wo (WO.skip (Qy hw) hd q2 (WO.nil YW.mk)) (kv hT n _ (by simp) h k) q0 hd q1
     .rename_i hw;split at h
      .cases h
      .rename_i x hv;simp[Jm]at h;exact .wo (Yn (Qy hw) hd q2 (Ml hT hv) (WO.nil YW.mk)) (kv hT n _ (by simp) h k) q0 hd q1
  .cases h
theorem _y{p:Bx}{r:Lx}(h:M3 [] p=AC r):M3 H p=AC r:=by
 unfold M3 at h⊢
 grind[YH]
theorem lM{o:AM}{e:Env}{x:A}(h:Hv T o e []=AC x):Hv T o e H=AC x:=by
 unfold Hv at h⊢;split at h<;>first|exact h|skip
 split at h
 .cases h
 grind[_y]
def SN(T:Fa)(N:Nat)(cat:AA Nat)(l:AA AM)(ds:AA Nat)(env:Env)(H1:Qd):Nat->Nat->AA AM->AA A->AB (AA AM×AA A)
 |0,_,r,xs=>AC (r,xs)
 |_+1,_,[],_=>AF
 |n+1,i,o::r,xs=>match o.dst with
  |none=>AF
  |some d=>match Nat.blt d N with
   |false=>AF
   |true=>match Yc ⟨l⟩ o (Q3 (Qj o) 0 ds xs env)with
    |none=>AF
    |some AD=>match YH cat i with
     |some 2=>(match J0 xs (.tup [])with
      |.mk xs'=>SN T N cat l ds env H1 n (i+1) r xs')
     |some 3=>(match J0 xs (.tup [])with
      |.mk xs'=>SN T N cat l ds env H1 n (i+1) r xs')
     |_=>AF
    |some AE=>match YH cat i with
     |some 2=>(match Hv T o (Q3 (Qj o) 0 ds xs env) H1 with
      |none=>AF
      |some x=>match J0 xs x with
       |.mk xs'=>SN T N cat l ds env H1 n (i+1) r xs')
     |some 3=>(match Hv T o (Q3 (Qj o) 0 ds xs env) []with
      |none=>AF
      |some x=>match J0 xs x with
       |.mk xs'=>SN T N cat l ds env H1 n (i+1) r xs')
     |_=>AF
theorem dT(hT:IV P T):∀(n i:Nat) {r r':AA AM} {xs xs':AA A},i=xs.length->SN T N cat l ds env H1 n i r xs=AC (r',xs')->DB P N m cat l ds env H H1 K r' xs'->DB P N m cat l ds env H H1 K r xs
 |0,i,r,r',xs,xs',_,h,k=>by cases h;exact k
 |n+1,i,[],r',xs,xs',_,h,k=>by cases h
 |n+1,i,o::r,r',xs,xs',hi,h,k=>by
  subst hi;unfold SN at h;split at h
  .cases h
  .rename_i d hd;split at h
   .cases h
   .rename_i q2;split at h
    .cases h
    .rename_i hw;split at h
     .rename_i q0;simp[Jm]at h;exact .wo1 (WO.skip (Qy hw) hd q2 (WO.nil YW.mk)) (dT hT n _ (by simp) h k) q0 hd
     .rename_i q0;simp[Jm]at h;exact .wo2 (WO.skip (Qy hw) hd q2 (WO.nil YW.mk)) (WO.skip (Qy hw) hd q2 (WO.nil YW.mk)) (dT hT n _ (by simp) h k) q0 hd
     .cases h
    .rename_i hw;split at h
     .rename_i q0;split at h
      .cases h
      .rename_i x hv;simp[Jm]at h;exact .wo1 (Yn (Qy hw) hd q2 (Ml hT hv) (WO.nil YW.mk)) (dT hT n _ (by simp) h k) q0 hd
     .rename_i q0;split at h
      .cases h
      .rename_i x hv;simp[Jm]at h;exact .wo2 (Yn (Qy hw) hd q2 (Ml hT (lM hv)) (WO.nil YW.mk)) (Yn (Qy hw) hd q2 (Ml hT (lM hv)) (WO.nil YW.mk)) (dT hT n _ (by simp) h k) q0 hd
     .cases h
end
def b_(L:AA (Nat×AA (Nat×Nat)))(fs:AA (Nat×Nat×Nat)):Bool:=
 fs.all λe=>match Hh L e.1 with
  |some pl=>(match YH pl e.2.1 with
   |some q=>Nat.beq q.1 e.2.2&& !(Nat.beq q.2 0)
   |none=>AD)
  |none=>AD
theorem PL.get{fs:AA Field}{g:AA (Nat×Nat)}(h:PL P fs g):∀{f d n:Nat},YH g f=AC (d,n)->∃fd,fs[f]?=AC fd/\fd.offset=d/\ ∀w,(sizeOf fd.type).run P w=.ok n w:=by
 induction h with
 |nil=>intro f d n h;cases h
 |cons h k m=>
  intro f d n j;cases f with
  |zero=>cases j;grind
  |succ f=>grind[YH]
theorem zW{L:AA (Nat×AA (Nat×Nat))}{fs:AA (Nat×Nat×Nat)}(x:∀e∈L,SQ P e.1 e.2)(h:b_ L fs=AE):∀e∈fs,∃n,Qw P e.1 e.2.1 e.2.2 n:=by
 intro e z;have:=Xs.1 h e z;split at this
 .rename_i F d;split at this
  .rename_i q f;obtain⟨t,n⟩:=q;simp only[XW,Bool.not_eq_true']at this;have g:=XQ this.1;obtain⟨j,B,k⟩:=x _ (Mk d);obtain⟨m,G,E,y⟩:=PL.get k f;refine⟨n,⟨⟨_,m,B,by grind,E.trans g,y,?_⟩⟩⟩
   grind[Nat.beq_refl]
  .cases this
 .cases this
section
variable {P:AK} {Z:NH} {h0 N:Nat} {all:Array AM} {o:AM} {l:AA AM} {env:Env} {H:Qd} {Q:Qz} {d:Nat}
theorem Cdz(m:Kx P Z){r:γ}{f:Nat}{j:AA A}{Hr:β->Qd}(π:AA Nat)(h:F.bind F'=AC r)(n:∀v,F=AC v->C P f j Hc (RQ w Hr v))
  (k:J1 Z o env=AC (d,f,args))(g:∀v,F=AC v->F' v=AC r->WO P h0 N all l (up env d (YY (Ci π H.length) (w v))) (Q8 H π ((Hr v).map (QW (Ci π H.length)))) Q)
  (hargs:args=JB (Ci π H.length) j)(hH:π.map (λp=>H[p]?)=(Hc.map (QW (Ci π H.length))).map AC)(hπ:π.Nodup)(hg:Yc all o env=AC AE)(y:Nat.blt d N=AE)(t:Nat.ble h0 H.length=AE):WO P h0 N all (o::l) env H Q:=by
 obtain⟨v,z,B⟩:=QF h;obtain⟨q,x⟩:=gR (H:=H) m k;refine Qh π x (n v z) ?_ hargs hH hπ (Qy hg) q y t
 grind
end
inductive FLL where
 |mk (l:List (List A))
def b4(sel:AA Nat):AA (AA A)->FLL
 |[]=>.mk []
 |a::r=>match b5 sel a,b4 sel r with
  |.mk a',.mk r'=>.mk (a'::r')
inductive FBk where
 |mk (b:CW)
def jX(sel:AA Nat):CW->FBk
 |.cells t cs=>match b5 sel cs with
  |.mk l=>.mk (.cells t l)
 |.rowr t k es=>match b4 sel es with
  |.mk l=>.mk (.rowr t k l)
 |.wins t a n c=>match SK sel ixL a with
  |.mk a'=>.mk (.wins t a' n c)
 |.ents t a b es=>match SK sel ixL a,SK sel ixL b with
  |.mk a',.mk b'=>.mk (.ents t a' b' es)
 |b=>.mk b
def Zm(H:Qd)(sel:AA Nat):AA Nat->FB
 |[]=>.mk []
 |a::r=>match YH H a with
  |some b=>(match jX sel b,Zm H sel r with
   |.mk b',.mk l=>.mk (b'::l))
  |none=>.mk []
def Zn(sel sl:AA Nat)(env:Env)(H:Qd):AB (Env×Qd):=
 match jh sel env sl [],Zm H sel sel with
 |.mk e,.mk h=>AC (e,h)
theorem Rx{h:Nat}{E':Env}{H':Qd}{Qr:A->Qd->Prop}{g:A}(π sl:AA Nat)(_:Zn π sl env H=AC (E',H'))(f:Hg P fn E' H' g)(j:Qr g H')(d:π.take h=List.range h:=by rfl)
  (hH:π.map (λp=>H[p]?)=(H'.map (QW (Ci π H.length))).map some:=by rfl)(hπ:π.Nodup:=by decide)(hE:Hw (Ci π H.length) env E':=by(repeat' (first|exact trivial|refine⟨rfl,?_⟩))):Ja P h fn Qr .ret env H:=
 ⟨E',H',g,Lr π d hH hπ hE,f,j⟩
variable {T:Type}
def Rf:AA T->T->AA T->Prop:=λl x rem=>l=x::rem
def P3{S T B:Type}(step:S->T->AB (CG S B)):AA T->S->AB (CG S B)
 |[],s=>AC (.k s)
 |x::l,s=>(step s x).bind λd=>match d with
  |.k s'=>P3 step l s'
  |.d b=>AC (.d b)
def LS{S T B:Type}(step:S->AB (AA T×CG S B)):Nat->S->AB (AA T×B)
 |0,_=>AF
 |n+1,s=>(step s).bind λp=>match p.2 with
  |.k s'=>(LS step n s').bind λq=>AC (p.1++q.1,q.2)
  |.d b=>AC (p.1,b)
variable {B:Type}
def j5(h1:Nat)(env:Env)(Q:Qz)(d:CG S B)(Hp:S->Qd):Qz
 |.normal,env',H'=>∃s,d=.k s/\Le h1 env' H' [] (Hp s)
 |.exit id,env',H'=>(∃b,d=.d b)/\ ∃H2,Le h1 env' H' [] H2/\Q (.exit id) env H2
 |.ret,env',H'=>(∃b,d=.d b)/\ ∃H2,Le h1 env' H' [] H2/\Q .ret env H2
variable {Hp:S->Qd}{env':Env}
theorem oq{B:Type}{h1:Nat}{H':Qd}{s:S}{d:CG S B}(e:AC (CG.k s)=AC d)(h:Le h1 env' H' [] (Hp s)):j5 h1 env Q d Hp .normal env' H':=⟨s,(Oi e).symm,h⟩
theorem ot{B:Type}{h1:Nat}{H' H2:Qd}{b:B}{d:CG S B}(e:AC (CG.d b)=AC d)(h:Le h1 env' H' [] H2)(q:Q .ret env H2):j5 h1 env Q d Hp .ret env' H':=⟨⟨b,(Oi e).symm⟩,H2,h,q⟩
variable {y:Operand}
theorem rM{h0 N:Nat}{ps:AA Nat}{assign body:Code}{f:FuncId}{caps g:AA A}{T B:Type}{enc:T->AA A}{xs:AA T}{step:S->T->AB (CG S B)}{D:CG S B}
  (π:AA Nat)(Hp:S->Qd)(h:P3 step xs s0=AC D)(t:Pz P f g Hc enc Rf xs)(n:∀x,(enc x).length=ps.length)(O:∀args w,(callFunc f args).run P w=.ok (.enter f args) w)
  (X:Nat.ble h0 H.length=AE)(hg:CQ env y=.fn (.func f) [] caps)(hargs:caps=JB (Ci π H.length) g)(hH:π.map (λp=>H[p]?)=(Hc.map (QW (Ci π H.length))).map AC)(hπ:π.Nodup)(F:(ps.all λp=>Nat.blt p N)=AE)
  (m:Le H.length env (P9 H π) env (Hp s0))
  (j:∀s x d,step s x=AC d->(∀b,d=.d b->D=.d b)->TC P H.length N assign (cU ps (enc x) env) (Hp s) λe env1 H1=>e=.normal/\TC P H.length N body env1 H1 (j5 H.length env Q d Hp))
  (k:∀s,D=.k s->Q .normal env (Hp s)):TC P h0 N (.rangeFunc y ps.toArray assign body) env H Q:=by
 refine TC.rangeFunc π Hp (λs l=>P3 step l s=AC D) s0 (by simp_all) hg hargs hH hπ F O t n m h ?_ ?_
 .rintro s l x rem z rfl;obtain⟨d,V,z⟩:=QF z;refine(j s x d V ?_).mono ?_
  .grind
  .rintro e env1 H1 ⟨R,M⟩;refine⟨R,M.mono ?_⟩;intro W G H2 q;cases W with
   |normal=>
    obtain⟨J,rfl,m⟩:=q;exact⟨Hp J,m,J,z,rfl⟩
   |exit id=>
    obtain⟨_,H3,E,q⟩:=q;exact⟨H3,E,q⟩
   |ret=>
    obtain⟨_,H3,E,q⟩:=q;exact⟨H3,E,q⟩
 .intro s L;exact k s (Oi L).symm
section
variable {T:Type} {X:FM T} {P:AK} {h0 N:Nat} {c:Code} {env:Env} {H:Qd} {st:G' T} {Q:YP T}
def dA(h0:Nat)(E:S->Env)(Hp:S->Qd)(d:CG S B)(rest:AA T)(Q:YP T):YP T
 |.normal,env,H,st=>∃s,d=.k s/\Le h0 env H (E s) (Hp s)/\st=.on rest
 |.exit id,env,H,st=>Q (.exit id) env H st
 |.ret,env,H,st=>Q .ret env H st
theorem Qms{B:Type}{step:S->AB (AA T×CG S B)}{E:S->Env}{m:Nat}{y rem:AA T}{b:B}(h:LS step m s0=AC (y,b))(O:Le h0 env H (E s0) (Hp s0))
  (body:∀s zs d rest,step s=AC (zs,d)->(∀b',d=.d b'->b'=b/\rest=rem)->Cw X P h0 N c (E s) (Hp s) (.on (zs++rest)) (dA h0 E Hp d rest Q)):Cw X P h0 N (.loop c) env H (.on (y++rem)) Q:=by
 refine rN (I:=λn env H G=>∃s f,LS step n s=AC (f,b)/\G=.on (f++rem)/\Le h0 env H (E s) (Hp s)) ?_ ⟨s0,y,h,rfl,O⟩;rintro n env H G ⟨s,f,g,rfl,k⟩;cases n with
 |zero=>cases g
 |succ n=>
  obtain⟨⟨zs,d⟩,F,g⟩:=QF g;refine Cw.le k ?_;cases d with
  |k R=>
   obtain⟨⟨M,V⟩,J,g⟩:=QF g;cases g;rw[Vj];refine(body s zs (.k R) (M++rem) F (λb' e=>by cases e)).mono ?_;rintro x j H' t q;cases x with
   |normal=>
    obtain⟨L,e,z,rfl⟩:=q;cases e;exact⟨n,Xn n,_,_,J,rfl,z⟩
   |exit id=>exact q
   |ret=>exact q
  |d b'=>
   cases g;refine(body s _ (.d b) rem F (λb' e=>by cases e;exact⟨rfl,rfl⟩)).mono ?_;rintro x j H' t q;cases x with
   |normal=>obtain⟨L,e,_⟩:=q;cases e
   |exit id=>exact q
   |ret=>exact q
def M7(X:FM T)(P:AK)(h0 N:Nat):AA Kf->YP T->YP T
 |[],Q=>Q
 |.seq c::k,Q=>cM X P h0 N c (M7 X P h0 N k Q)
 |.blo id::k,Q=>Wg id (M7 X P h0 N k Q)
 |.unr c::k,Q=>λ_ _ _ _=>False
@[reducible] def Si(X:FM T)(P:AK)(h0 N:Nat):Cf->AA Kf->Env->Qd->G' T->YP T->Prop
 |.code c,k,env,H,st,Q=>Cw X P h0 N c env H st (M7 X P h0 N k Q)
 |.ops all l,k,env,H,st,Q=>FH X P h0 N all l env H st (M7 X P h0 N k Q)
 |.out x,k,env,H,st,Q=>M7 X P h0 N k Q x env H st
def n8:Cf->AA Kf->Bool
 |.code (.loop _),_=>AD
 |.out _,.unr _::_=>AD
 |_,_=>AE
theorem Qnl{Tx:Fa}(m:IV P Tx){c f:Cf}{k j:AA Kf}{H':Qd}(h:W0 Tx h0 N c k env H=AC (f,j,env',H'))(d:n8 c k=AE)(g:Si X P h0 N f j env' H' st Q):Si X P h0 N c k env H st Q:=by
 unfold W0 at h;split at h
 .cases h;exact Cw.seq g
 .cases h;exact Cw.block g
 .cases d
 .cases h;exact Cw.skip g
 .cases h;exact Cw.ret g
 .cases h;exact Cw.exit g
 .cases h;exact Cw.region g
 .grind[Cw.cond,QX]
 .cases h;exact FH.nil g
 .split at h
  .rename_i q;cases h;exact FH.step (jn m q (WO.nil ⟨rfl,g⟩))
  .cases h
 .cases h;exact g
 .cases h;exact g
 .cases h;exact g
 .cases h;exact g
 .split at h
  .rename_i q;have e:=XQ q;show(bif Nat.beq _ _ then _ else _)
   grind
  .show(bif Nat.beq _ _ then _ else _)
   grind
 .cases h;exact g
 .cases d
 .cases d
 .cases d
 .cases h
def Wt(Tx:Fa)(h0 N:Nat):Nat->Cf->AA Kf->Env->Qd->AB (Cf×AA Kf×Env×Qd)
 |0,c,k,env,H=>AC (c,k,env,H)
 |n+1,c,k,env,H=>match n8 c k with
  |true=>(match W0 Tx h0 N c k env H with
   |some (c',k',env',H')=>Wt Tx h0 N n c' k' env' H'
   |none=>AF)
  |false=>AF
theorem gc{Tx:Fa}(hT:IV P Tx):∀(n:Nat) {c c':Cf} {k k':AA Kf} {env env':Env} {H H':Qd},Wt Tx h0 N n c k env H=AC (c',k',env',H')->Si X P h0 N c' k' env' H' st Q->Si X P h0 N c k env H st Q
 |0,c,c',k,k',env,env',H,H',h,g=>by cases h;exact g
 |n+1,c,c',k,k',env,env',H,H',h,g=>by
  unfold Wt at h;split at h
  .rename_i hn;split at h
   .rename_i e;exact Qnl hT e hn (gc hT n h g)
   .cases h
  .cases h
theorem Cw.lf{k:AA Kf}(h:TC P h0 N c env H (λx env H=>M7 X P h0 N k Q x env H st)):Cw X P h0 N c env H st (M7 X P h0 N k Q):=Cw.lift h
theorem FH.y1{all:Array AM}{o:AM}{r:AA AM}{d:Nat}{x:T}{l:AA T}{e:T->A}{z:Operand}{h:Array TypeId}(hE:X.enc=λx=>[e x])(m:X.nx=Rf)(g:o.op=.call {callee:=.value y,args:= #[z],argTypes:=h})(j:CQ env y=.fn (.yield X.l) [] [])(k:CQ env z=e x)(f:YJ (e x)=AE)
  (q:FH X P h0 N all r (up env d (.bool AE)) H (.on l) Q)(n:FH X P h0 N all r (up env d (.bool AD)) H (.off l) Q)(hg:QA all o env true:=by rfl)(hd:o.dst=AC d:=by rfl)(hNd:Nat.blt d N=true:=by rfl):FH X P h0 N all (o::r) env H (.on (x::l)) Q:=by
 refine FH.yield (by rw[m];rfl) hg hd hNd ?_ ?_
 .rw[hE];exact qh g j k f
 grind
theorem oM{all:Array AM}{o:AM}{r:AA AM}{d:Nat}{x:T}{l:AA T}{h k:T->A}{n q:Operand}{z:Array TypeId}(hE:X.enc=λx=>[h x,k x])(E:X.nx=Rf)(t:o.op=.call {callee:=.value y,args:= #[n,q],argTypes:=z})(B:CQ env y=.fn (.yield X.l) [] [])(f:CQ env n=h x)(j:CQ env q=k x)(g:YJ (h x)=AE)(m:YJ (k x)=AE)
  (G:FH X P h0 N all r (up env d (.bool AE)) H (.on l) Q)(F:FH X P h0 N all r (up env d (.bool AD)) H (.off l) Q)(hg:QA all o env true:=by rfl)(hd:o.dst=AC d:=by rfl)(hNd:Nat.blt d N=true:=by rfl):FH X P h0 N all (o::r) env H (.on (x::l)) Q:=by
 refine FH.yield (by rw[E];rfl) hg hd hNd ?_ ?_
 .rw[hE];exact Qlj t B f j g m
 grind
end
variable {R:Type}
def yl(x:T)(k:AB (AA T×R)):AB (AA T×R):=k.bind λp=>AC (x::p.1,p.2)
def ap(a:AB (AA T×B))(k:B->AB (AA T×R)):AB (AA T×R):=a.bind λp=>(k p.2).bind λq=>AC (p.1++q.1,q.2)
theorem ng{T R:Type}{x:T}{k:AB (AA T×R)}{d:AA T}{v:R}(h:yl x k=AC (d,v)):∃zs,k=AC (zs,v)/\d=x::zs:=by
 obtain⟨⟨zs,g⟩,j,f⟩:=QF h
 grind
theorem nk{T B R:Type}{a:AB (AA T×B)}{k:B->AB (AA T×R)}{d:AA T}{v:R}(h:ap a k=AC (d,v)):∃y1 b y2,a=AC (y1,b)/\k b=AC (y2,v)/\d=y1++y2:=by
 obtain⟨⟨y1,b⟩,n,f⟩:=QF h;obtain⟨⟨y2,m⟩,j,g⟩:=QF f
 grind
section
variable {T:Type} {X:FM T} {P:AK} {h0 N:Nat} {c c':Code} {env:Env} {H:Qd} {st:G' T} {Q:YP T}
def jd(h0:Nat)(b:β)(E':β->Env)(H':β->Qd)(rem:AA T)(Q:YP T):YP T
 |.normal,env,H,st=>Le h0 env H (E' b) (H' b)/\st=.on rem
 |.exit id,env,H,st=>Q (.exit id) env H st
 |.ret,env,H,st=>Q .ret env H st
theorem pg(b:β)(rem:AA T)(sel keep:AA Nat)(nE:β->Env)(nH:β->AA (Nat×CW))(_:∀b,Kw sel keep (nE b) (nH b) env H=AC (E' b,H' b))(h:Cw X P h0 N c env H st (jd h0 b E' H' rem Q))(k:∀env H,Le h0 env H (E' b) (H' b)->Q .normal env H (.on rem)):Cw X P h0 N c env H st Q:=
 h.mono λx env' H' st' q=>by
  cases x with
  |normal=>obtain⟨q1,rfl⟩:=q;grind
  |exit id=>exact q
  |ret=>exact q
theorem nm{b:β}{rem:AA T}(h:Le h0 env H (E' b) (H' b)):jd h0 b E' H' rem Q .normal env H (.on rem):=⟨h,rfl⟩
theorem nn{b:β}{rem:AA T}(h:Q .ret env H st):jd h0 b E' H' rem Q .ret env H st:=h
theorem oL{B:Type}{step:S->AB (AA T×CG S B)}{E':S->Env}{H':S->Qd}{m:Nat}{ys rem:AA T}{b:B}(sel keep:AA Nat)(nE:S->Env)(nH:S->AA (Nat×CW))(h:LS step m s0=AC (ys,b))(_:∀s,Kw sel keep (nE s) (nH s) env H=AC (E' s,H' s))(hI:Le h0 env H (E' s0) (H' s0))
  (body:∀s zs d rest,step s=AC (zs,d)->(∀b',d=.d b'->b'=b/\rest=rem)->Cw X P h0 N c (E' s) (H' s) (.on (zs++rest)) (dA h0 E' H' d rest Q)):Cw X P h0 N (.loop c) env H (.on (ys++rem)) Q:=Qms h hI body
theorem oY{S B:Type}{E':S->Env}{H':S->Qd}{s:S}{d:CG S B}{zs rest:AA T}(e:AC ([],CG.k s)=AC (zs,d))(h:Le h0 env H (E' s) (H' s)):dA h0 E' H' d rest Q .normal env H (.on (zs++rest)):=by
 cases e;exact⟨s,rfl,h,rfl⟩
theorem oa{S B:Type}{id:Nat}{E':S->Env}{H':S->Qd}{d:CG S B}{rest:AA T}(h:Q (.exit id) env H st):dA h0 E' H' d rest Q (.exit id) env H st:=h
theorem oZ{S B:Type}{E':S->Env}{H':S->Qd}{d:CG S B}{rest:AA T}(h:Q .ret env H st):dA h0 E' H' d rest Q .ret env H st:=h
theorem Oy{S B:Type}{d:CG S B}{x b:B}{zs rest rem:AA T}(f:∀b',d=.d b'->b'=b/\rest=rem)(h:AC ([],CG.d x)=AC (zs,d)):zs=[]/\b=x/\rest=rem:=by
 grind
theorem sd{f:FuncId}{c:Code}{N:Nat}{caps:AA A}{enc:T->AA A}{xs:AA T}(k:P.funcs[f]?=AC fn)(j:fn.body=AC c)(m:fn.ntmps=N)(d:Nat.ble (caps.length+1) N=AE)(g:fn.results= #[])
  (h:∀X,X.enc=enc->X.nx=Rf->Cw X P H.length N c (KJ 0 (.fn (.yield X.l) [] []::caps)) H (.on (xs++[])) fA):Pz P f caps H enc Rf xs:=by
 grind[tJ]
end
open Go.MapKept
section
variable {fr ro:Nat->Prop} {σ:Ch} {H:Qd} {w:AJ}
end
end Go.Sw
namespace Go.Sw
open Option renaming some→AC,none→AF
open Bool renaming false→AD,true→AE
open Decidable renaming decide→AG
open Go renaming World→AJ,Program→AK,Value→AL,Oper→AM
open Go.MapKept
def Mc{α β:Type}(ek:α->A)(ev:β->AA A)(l:AA (α×AB (AA β))):AA (A×AB (AA (AA A))):=l.map λp=>(ek p.1,p.2.map (List.map ev))
def fu{α β:Type}[DecidableEq α](l:AA (α×AB (AA β)))(x:α):AA (α×AB (AA β)):=l.map λp=>bif p.1=x then(p.1,AF)else p
section
variable {P:AK} {kt:TypeId} {α β:Type} [DecidableEq α] {ek:α->A} {ev:β->AA A} {ro:Nat->Prop} {w:AJ} {t k:Nat} (K:JA P kt ek)
include K
theorem om{x:α}:∀{l:AA (α×AB (AA β))} {es:AA MapEntry},MO ro w t k (Mc ek ev l) es->MO ro w t k (Mc ek ev (fu l x)) es
 |[],es,h=>h
 |p::l,es,h=>by
  obtain⟨e,l',rfl,h1,h2,h3⟩:=h;by_cases q:p.1=x
  .refine⟨e,l',rfl,by grind,λrows hr=>?_,om h3⟩
   grind
  .refine⟨e,l',rfl,by grind,(by grind),om h3⟩
omit K
theorem lV{x:α}{c:Nat}:∀{l:AA (α×AB (AA β))} {es:AA MapEntry},NL (Mc ek ev (fu l x)) es c->NL (Mc ek ev l) es c
 |[],es,h=>by cases es<;>exact h.elim
 |p::l,[],h=>h.elim
 |p::l,e::es,h=>by
  rcases h with⟨h1,h2⟩|h
  .by_cases q:p.1=x
   .grind
   .exact .inl ⟨by grind,h2⟩
  .exact .inr (lV h)
theorem QmL{x:α}:∀{l:AA (α×AB (AA β))} {es:AA MapEntry},cR (Mc ek ev l) es->cR (Mc ek ev (fu l x)) es
 |[],es,h=>by cases es<;>trivial
 |p::l,[],h=>trivial
 |p::l,e::es,h=>by
  obtain⟨h1,h2⟩:=h;refine⟨λc q1 q2 q3=>?_,QmL h2⟩;by_cases q:p.1=x
  .grind
  .exact h1 c (by grind) q2 (lV q3)
include K
theorem MO.find:∀{l:AA (α×AB (AA β))} {es:AA MapEntry},MO ro w t k (Mc ek ev l) es->∀(x:α),(es.map (·.key)).Nodup->
  ((∀e:MapEntry,e∈es->e.key≠Q5 (ek x))->JC l x=AF)/\
  (∀(j:Nat) (e:MapEntry),es[j]?=AC e->e.key=Q5 (ek x)->∃q,JC l x=AC q/\(∀rows,q=AC rows->SO ro w t k (rows.map ev) e.val)/\
   ∀c p n cap,q.isSome=AE->e.val=.slice (AC ⟨c,p,AF⟩) n cap->NL (Mc ek ev l) es c/\(cR (Mc ek ev l) es->¬NL (Mc ek ev (fu l x)) es c))
 |[],es,h,x,_=>by
  cases(show es=[]from h);exact⟨λ_=>rfl,(by simp)⟩
 |p::l,es,h,x,hn=>by
  obtain⟨e0,l',rfl,h1,h2,h3⟩:=h;have hk:=VR.val (K.scl _) h1;simp only[Vk,List.nodup_cons]at hn;obtain⟨a1,a2⟩:=MO.find (l:=l) h3 x hn.2;by_cases hp:p.1=x
  .subst hp;constructor
   .grind
   .intro j e he hx;cases j with
    |zero=>
     simp only[XE,Option.some.injEq]at he;subst he;refine⟨p.2,by simp[JC],(by grind),λc p' n cap hs hv=>⟨.inl (by grind),λhd hq=>?_⟩⟩;rcases hq with⟨q1,_⟩|hq
     .simp at q1
     .exact hd.1 c (by grind) ⟨p',n,cap,hv⟩ (lV (l:=l) hq)
    |succ j=>
     grind
  .have e1:JC (p::l) x=JC l x:=by simp[JC,hp]
   rw[e1];constructor
   .grind
   .intro j e he hx;cases j with
    |zero=>
     simp only[XE,Option.some.injEq]at he;subst he;exact absurd (K.inj _ _ (hk.symm.trans hx)) hp
    |succ j=>
     obtain⟨q,f,z,m⟩:=a2 j e (by grind) hx;refine⟨q,f,z,λc p' n cap hs hv=>?_⟩;obtain⟨d,y⟩:=m c p' n cap hs hv;refine⟨.inr d,λhd hq=>?_⟩;rcases hq with⟨q1,g⟩|hq
     .exact hd.1 c (by grind) g d
     .exact y hd.2 hq
end
section
variable {P:AK} {o:AM} {env:Env} {H:Qd}
variable {T kt et:Nat} {α β:Type} [DecidableEq α] {ek:α->A} {ev:β->AA A} {x y:Operand} {i t k:Nat} {l:AA (α×AB (AA β))} {key:α} {rows:AA β}
end
end Go.Sw
namespace Go.Sw
open Option renaming some→AC,none→AF
open Bool renaming false→AD,true→AE
open Decidable renaming decide→AG
open Go renaming World→AJ,Program→AK,Value→AL,Oper→AM
open Go.MapKept
theorem MO.append{ro:Nat->Prop}{w:AJ}{t k:Nat}:∀{l m:AA (A×AB (AA (AA A)))} {es fs:AA MapEntry},MO ro w t k l es->MO ro w t k m fs->MO ro w t k (l++m) (es++fs)
 |[],m,es,fs,h,q=>by cases(show es=[]from h);exact q
 |p::l,m,es,fs,h,q=>by
  obtain⟨e,l',rfl,h1,h2,h3⟩:=h;exact⟨e,l'++fs,rfl,h1,h2,MO.append h3 q⟩
theorem MO.length{ro:Nat->Prop}{w:AJ}{t k:Nat}:∀{l:AA (A×AB (AA (AA A)))} {es:AA MapEntry},MO ro w t k l es->es.length=l.length
 |[],es,h=>by cases(show es=[]from h);rfl
 |p::l,es,h=>by
  obtain⟨e,l',rfl,h1,h2,h3⟩:=h;simp[MO.length h3]
section
variable {P:AK} {kt:TypeId} {α β:Type} [DecidableEq α] {ek:α->A} {ev:β->AA A} {ro:Nat->Prop} {w:AJ} {t k:Nat} (K:JA P kt ek)
end
section
variable {P:AK} {o:AM} {env:Env} {H:Qd}
variable {T kt et:Nat} {α β:Type} [DecidableEq α] {ek:α->A} {ev:β->AA A} {x y zz:Operand} {i j t k n:Nat} {l m:AA (α×AB (AA β))} {key:α} {rows:AA β}
end
end Go.Sw
namespace Go.Sw
open Option renaming some→AC,none→AF
open Bool renaming false→AD,true→AE
open Decidable renaming decide→AG
open Go renaming World→AJ,Program→AK,Value→AL,Oper→AM
open Go.MapKept
section
variable {fr ro:Nat->Prop} {σ:Ch} {H:Qd} {w:AJ}
theorem MO.er{t k:Nat}:∀{es:AA (A×AB (AA (AA A)))} {l:AA MapEntry},MO ro w t k es l->ER ro [] w (es.map λe=>(e.1,.any)) l
 |[],_,h=>h
 |x::r,_,⟨e,l',h1,h2,h3,h4⟩=>⟨e,l',h1,h2,trivial,MO.er h4⟩
end
section
variable {P:AK} {o:AM} {env:Env} {H:Qd} {T kt et i t k:Nat} {x:Operand} {es:AA (A×AB (AA (AA A)))}
end
section
variable {P:AK} {o:AM} {env:Env} {H:Qd}
variable {T kt et:Nat} {α β:Type} [DecidableEq α] {ek:α->A} {ev:β->AA A} {x y zz:Operand} {i j t k n:Nat} {l m:AA (α×AB (AA β))} {key:α} {rows:AA β}
end
end Go.Sw
namespace Go.Sw
open Option renaming some→AC,none→AF
open Bool renaming false→AD,true→AE
open Decidable renaming decide→AG
open Go renaming World→AJ,Program→AK,Value→AL,Oper→AM
open Go.MapKept
section
variable {P:AK} {o:AM} {env:Env} {H:Qd}
variable {T kt et:Nat} {α β:Type} [DecidableEq α] {ek:α->A} {ev:β->AA A} {x y zz:Operand} {i j t k n:Nat} {l m:AA (α×AB (AA β))} {key:α} {rows:AA β}
end
end Go.Sw
namespace Go.Sw
open Option renaming some→AC,none→AF
open Bool renaming false→AD,true→AE
open Decidable renaming decide→AG
open Go renaming World→AJ,Program→AK,Value→AL,Oper→AM
theorem Sd{h0 d:Nat}{x y:A}{e:Env}{H:Qd}:Le h0 ((d,x)::(d,y)::e) H ((d,x)::e) H:=Le.env λs=>.inr (by
 simp[lk]
 grind)
abbrev Mm:=AA (Nat×Nat×Nat)
def cV:Nat->Nat->AA (Nat×Nat)
 |lo,0=>[(lo,lo)]
 |lo,n+1=>(lo,lo)::cV (lo+1) n
def nJ(p:Nat×Nat×Nat):AA (Nat×Nat):=bif Nat.beq p.1 1 then[(p.2.1,p.2.1+1)]else cV p.2.1 (p.2.2-p.2.1)
def Pm(cat:Mm):AA (AA (Nat×Nat)):=cat.map nJ
def nF(bs:AA Nat)(cat:Mm):AA (AA Nat):=cat.map λp=>bs.take p.2.1
def nP(cat:Mm):AA Bool:=cat.map λp=>Nat.beq p.1 1
def fM(bs:AA Nat):AA (AA Nat):=(List.range (bs.length+1)).map bs.take
theorem gg:∀(n lo:Nat),∀p∈cV lo n,p.1=p.2
 |0,lo,p,h=>by cases h with|head=>rfl|tail _ h=>cases h
 |n+1,lo,p,h=>by
  rcases X7.1 h with rfl|h
  .rfl
  .exact gg n _ p h
variable {Zs:AA Qd}{hi:Nat}
section
variable {P:AK} {T:Fa} {h0 N m:Nat} {bs:AA Nat} {cat:Mm} {l:AA AM} {ds:AA Nat} {env:Env} {H:Qd} {Hs:AA Qd} {Q:Qz} {K:AA AM->Env->Qd->Prop}
def PY(P:AK)(N:Nat)(cat:Mm)(l:AA AM)(ds:AA Nat)(env:Env)(n:Nat)(Hs:AA Qd)(zs:AA A)(j:Nat):Prop:=
 ∀p∈(Pm cat).getD j [],Jk P N l ds zs env n n j (Hs.getD p.1 []) (Hs.getD p.2 [])
def cu:AA (Nat×AB CW)->Qd->Prop
 |[],_=>True
 |p::r,Z=>Z[p.1]?=p.2/\cu r Z
def DK(P:AK)(N m:Nat)(bs:AA Nat)(cat:Mm)(l:AA AM)(ds:AA Nat)(env:Env)(n:Nat)(K:AA AM->Env->Qd->Prop)(B:AA (Nat×AB CW))(Hs:AA Qd)(X:Qd)(r:AA AM)(xs:AA A):Prop:=
 r=l.drop xs.length->∃ys Zs Y,xs.length+ys.length=m/\Hs.length+Zs.length=bs.length/\((∀Z∈Zs,n<=Z.length)/\(Hs.reverse++X::Zs).getD bs.length []=Y/\ ∀Z∈Zs,cu B Z)/\(∀j,xs.length<=j->j<m->PY P N cat l ds env n (Hs.reverse++X::Zs) (xs++ys) j)/\K (l.drop m) (IU ds (xs++ys) env) Y
theorem yq{f:AA A}{n:Nat}(g:cat.length=m)(h:∀j,0<=j->j<m->PY P N cat l ds env n Zs f j):CL P N l ds f env n (n+0) 0 ((Pm cat).map λq=>q.map λp=>(Zs.getD p.1 [],Zs.getD p.2 [])):=by
 refine kM _ 0 λi s d p k=>?_;rw[Xo]at d;cases e:(Pm cat)[i]? with
 |none=>grind
 |some q=>
  rw[e]at d;cases d;obtain⟨t,x,rfl⟩:=Xe.1 k;have y:i<m:=by
   grind[Pm]
  have:=h i (XU _) y t (by grind)
  grind
theorem Qo2{id:Nat}(m:Nat)(f:AA Nat)(cat:Mm)(x:P.follows .mixedOrders=AE)(t:HA l m N (Ij m 0 l) (nP cat) (nF f cat) (fM f) (Pm cat)=AE)(j:Nat.beq cat.length m=AE)(g:Nat.ble h0 H.length=AE)
  (h:DK P N m f cat l (Ij m 0 l) env H.length (λr e H=>WO P h0 N l.toArray r e H Q) [] [] H l []):TC P h0 N (.region id l.toArray AE) env H Q:=by
 obtain⟨y,Zs,Y,E,B,z,q,n⟩:=h rfl;have d:=XQ j;have k:(fM f).length=f.length+1:=by simp[fM]
 refine Yu m 0 _ _ _ _ _ y (H::Zs) Y x t (by grind) (by simp_all) g ?_ (by simp) (by grind) (yq d q) (by simp[Pm,d]) n
 simp_all
variable {n:Nat} {X X1:Qd} {B:AA (Nat×AB CW)} {xs:AA A} {o:AM} {r:AA AM} {x:A} {d:Nat}
theorem DK.done(d:Nat.beq xs.length m=AE)(f:Nat.beq Hs.length bs.length=AE)(h:K r (IU ds xs env) X):DK P N m bs cat l ds env n K B Hs X r xs:=by
 intro t;have e:=XQ d;have k:=XQ f;refine⟨[],[],X,by simpa using e,by omega,⟨(λZ hZ=>by cases hZ),?_,λZ hZ=>by cases hZ⟩,λj q g=>by omega,?_⟩
 .grind
 grind
theorem DK.add(E:∀ys Zs,Hs.length+Zs.length=bs.length->(∀Z∈Zs,cu B Z)->l[xs.length]?=AC o->PY P N cat l ds env n (Hs.reverse++X::Zs) (xs++x::ys) xs.length)(k:DK P N m bs cat l ds env n K B Hs X r (xs++[x])):DK P N m bs cat l ds env n K B Hs X (o::r) xs:=by
 intro t;obtain⟨z,q⟩:=ZO t;obtain⟨ys,Zs,Y,y,h,g,f,d⟩:=k (by grind);simp[Vj,Vi]at y f d;refine⟨x::ys,Zs,Y,by grind,h,g,λj F G=>?_,d⟩
 grind
theorem Y_{zs:AA A}{j:Nat}{c:Nat×Nat×Nat}(d:YH cat j=AC c)(h:∀p∈nJ c,Jk P N l ds zs env n n j (Zs.getD p.1 []) (Zs.getD p.2 [])):PY P N cat l ds env n Zs zs j:=by
 intro p f
 grind[Mh,Pm]
theorem k?{c:Nat}(d:Nat.beq c Hs.length=AE):(Hs.reverse++X::Zs).getD c []=X:=by
 simp_all
theorem DK.wo{c:Nat}(h:WO P X.length N l.toArray [o] (Q3 (Qj o) 0 ds xs env) X (YW (up (Q3 (Qj o) 0 ds xs env) d x) X))(k:DK P N m bs cat l ds env n K B Hs X r (xs++[x]))
  (g:YH cat xs.length=AC (0,c,c):=by rfl)(hd:o.dst=AC d:=by rfl)(hcH:Nat.beq c Hs.length=true:=by rfl):DK P N m bs cat l ds env n K B Hs X (o::r) xs:=
 .add (λys Zs hn hf ho=>Y_ g λp f=>by
  have:=by
   change p∈cV c (c-c)at f;rw[Nat.sub_self]at f;exact VA.1 f
  grind[k?,Mj,YV]) k
theorem DK.wa{lo:Nat}(h:∀X,WO P X.length N l.toArray [o] (Q3 (Qj o) 0 ds xs env) X (YW (up (Q3 (Qj o) 0 ds xs env) d x) X))(k:DK P N m bs cat l ds env n K B Hs X r (xs++[x]))
  (f:YH cat xs.length=AC (0,lo,hi):=by rfl)(hd:o.dst=AC d:=by rfl):DK P N m bs cat l ds env n K B Hs X (o::r) xs:=
 .add (λys Zs hn hf ho=>Y_ f λp g=>by
  have e:=gg _ _ p g
  grind[Mj,YV]) k
theorem DK.op{c E:Nat}(h:WO P X.length N l.toArray [o] (Q3 (Qj o) 0 ds xs env) X (YW (up (Q3 (Qj o) 0 ds xs env) d x) X1))(k:DK P N m bs cat l ds env n K B (X::Hs) X1 r (xs++[x]))(R:Nat.ble n X1.length=true:=by rfl)
  (hc:YH cat xs.length=AC (1,c,E):=by rfl)(hd:o.dst=AC d:=by rfl)(hcH:Nat.beq c Hs.length=true:=by rfl)(hB:cu B X1:=by repeat (first|exact trivial|refine⟨rfl,?_⟩)):DK P N m bs cat l ds env n K B Hs X (o::r) xs:=by
 intro H;obtain⟨M,G⟩:=ZO H;obtain⟨J,Zs,Y,L,z,g,y,t⟩:=k (by grind);simp only[X3,X0,List.length_nil,Vj,VK,Vi,List.reverse_cons]at L z g y t;refine⟨x::J,X1::Zs,Y,by grind,by grind,⟨λZ f=>?_,g.2.1,?_⟩,λj O Q=>?_,t⟩
 .rcases X7.1 f with rfl|f
  .simp_all
  grind
 .intro Z f;rcases X7.1 f with rfl|f
  .exact hB
  .exact g.2.2 Z f
 .rcases VB xs.length j with q|q
  .grind
  .obtain rfl:j=xs.length:=by omega
   refine Y_ hc λp F=>?_;have:p=(c,c+1):=VA.1 F
   grind[Nat.eq_of_beq_eq_true,Mj,YV]
theorem _v{hB hE:Nat}{xs d:AA A}{o:AM}{X X':Qd}(f:l[xs.length]?=AC o)(hdd:JJ hB hE X X'=AE)(h:WO P X.length N l.toArray [o] (Q3 (Qj o) 0 ds xs env) X (YW (Q3 (Qj o) 0 ds xs env) X'))(g:o.dst=AF):
  Jk P N l ds (xs++.any::d) env hB hE xs.length X X':=
 .unitE o _ f g kl (he:=by
  intro s;rcases kW (af:=Qj o) (env0:=env) (s:=s) ds xs (.any::d) 0 with⟨j,y,n,k,t,m⟩|q|q
  .grind
  .grind
  grind) (hdd:=hdd) (h:=h)
theorem DK.un{c y:Nat}(h:WO P X.length N l.toArray [o] (Q3 (Qj o) 0 ds xs env) X (YW (Q3 (Qj o) 0 ds xs env) X1))(k:DK P N m bs cat l ds env n K B (X::Hs) X1 r (xs++[.any]))(O:Nat.ble n X1.length=true:=by rfl)
  (hc:YH cat xs.length=AC (1,c,y):=by rfl)(hd:o.dst=none:=by rfl)(hcH:Nat.beq c Hs.length=true:=by rfl)(hB:cu B X1:=by repeat (first|exact trivial|refine⟨rfl,?_⟩)):DK P N m bs cat l ds env n K B Hs X (o::r) xs:=by
 intro F;obtain⟨J,E⟩:=ZO F;obtain⟨G,Zs,Y,H,x,f,t,g⟩:=k (by grind);simp only[X3,X0,List.length_nil,Vj,VK,Vi,List.reverse_cons]at H x f t g;refine⟨.any::G,X1::Zs,Y,by grind,by grind,⟨λZ d=>?_,f.2.1,?_⟩,λj L M=>?_,g⟩
 .rcases X7.1 d with rfl|d
  .simp_all
  grind
 .intro Z d;rcases X7.1 d with rfl|d
  .exact hB
  .exact f.2.2 Z d
 .rcases VB xs.length j with q|q
  .grind
  .obtain rfl:j=xs.length:=by omega
   refine Y_ hc λp z=>?_;have:p=(c,c+1):=VA.1 z
   grind[Nat.eq_of_beq_eq_true,_v,YV]
def SP(T:Fa)(N m:Nat)(cat:Mm)(l:AA AM)(ds:AA Nat)(env:Env)(n:Nat)(fl:Bool):Nat->Nat->Nat->AA Qd->Qd->AA AM->AA A->AB (AA Qd×AA AM×AA A)
 |0,_,_,Hs,X,r,xs=>AC (Hs,r,xs)
 |_+1,_,_,_,_,[],_=>AF
 |k+1,i,j,Hs,X,o::r,xs=>match o.dst with
  |none=>AF
  |some d=>match Nat.blt d N with
   |false=>AF
   |true=>match Yc ⟨l⟩ o (Q3 (Qj o) 0 ds xs env)with
    |none=>AF
    |some AD=>(match J0 xs (.tup [])with
      |.mk xs'=>match YH cat i with
       |some (0,_,_)=>SP T N m cat l ds env n fl k (i+1) j Hs X r xs'
       |some (1,c,_)=>(match fl&&Nat.beq c j,Nat.ble n X.length with
        |true,AE=>SP T N m cat l ds env n fl k (i+1) (j+1) (X::Hs) X r xs'
        |_,_=>AF)
       |_=>AF)
    |some AE=>match YH cat i with
     |some (0,lo,hi)=>(match Hv T o (Q3 (Qj o) 0 ds xs env) []with
      |some x=>(match J0 xs x with
       |.mk xs'=>SP T N m cat l ds env n fl k (i+1) j Hs X r xs')
      |none=>match Nat.beq lo hi,Nat.beq lo j with
       |true,AE=>(match Hv T o (Q3 (Qj o) 0 ds xs env) X with
        |none=>AF
        |some x=>match J0 xs x with
         |.mk xs'=>SP T N m cat l ds env n fl k (i+1) j Hs X r xs')
       |_,_=>AF)
     |_=>AF
theorem dU(hT:IV P T){fl:Bool}(hfl:fl=AE->B=[]):∀(k i j:Nat) {Hs Hs':AA Qd} {r r':AA AM} {xs xs':AA A},i=xs.length->j=Hs.length->SP T N m cat l ds env n fl k i j Hs X r xs=AC (Hs',r',xs')->DK P N m bs cat l ds env n K B Hs' X r' xs'->DK P N m bs cat l ds env n K B Hs X r xs
 |0,i,j,Hs,Hs',r,r',xs,xs',_,_,h,k=>by cases h;exact k
 |k0+1,i,j,Hs,Hs',[],r',xs,xs',_,_,h,k=>by cases h
 |k0+1,i,j,Hs,Hs',o::r,r',xs,xs',hi,hj,h,k=>by
  subst hi hj;unfold SP at h;split at h
  .cases h
  .rename_i d hd;split at h
   .cases h
   .rename_i q2;split at h
    .cases h
    .rename_i hw;simp[Jm]at h;split at h
     .rename_i lo hi' q0;exact .wa (λX=>WO.skip (Qy hw) hd q2 (WO.nil YW.mk)) (dU hT hfl k0 _ _ (by simp) rfl h k) q0 hd
     .rename_i c c' q0;split at h
      .rename_i q1 q3;rw[XW]at q1;exact .op (WO.skip (Qy hw) hd q2 (WO.nil YW.mk)) (dU hT hfl k0 _ _ (by simp) (by simp) h k) q3 q0 hd q1.2 (hfl q1.1▸trivial)
      .cases h
     .cases h
    .rename_i hw;split at h
     .rename_i lo hi' q0;split at h
      .rename_i x hv;simp[Jm]at h;exact .wa (λX=>Yn (Qy hw) hd q2 (Ml hT (lM hv)) (WO.nil YW.mk)) (dU hT hfl k0 _ _ (by simp) rfl h k) q0 hd
      .split at h
       .rename_i q1 q3;split at h
        .cases h
        .rename_i x hv;simp[Jm]at h;obtain rfl:=XQ q1;exact .wo (Yn (Qy hw) hd q2 (Ml hT hv) (WO.nil YW.mk)) (dU hT hfl k0 _ _ (by simp) rfl h k) q0 hd q3
       .cases h
     .cases h
theorem DK.is{α:Type}{b:Bool}{p q:AB α}{v:α}{d f:AA A}(j:Nat)(h:(bif b then p else q)=AC v)(g:YH xs j=AC (.bool b))(x:NK xs j (.bool AE)=.mk d)(k:NK xs j (.bool AD)=.mk f)
  (t:b=AE->p=AC v->DK P N m bs cat l ds env n K B Hs X r d)(e:b=AD->q=AC v->DK P N m bs cat l ds env n K B Hs X r f):DK P N m bs cat l ds env n K B Hs X r xs:=by
 cases b with
 |true=>simp_all[dP]
 |false=>simp_all[dP]
theorem DK.v(h:CU P o (Q3 (Qj o) 0 ds xs env) X x)(k:DK P N m bs cat l ds env n K B Hs X r (xs++[x])){c:Nat}(hg:Yc ⟨l⟩ o (Q3 (Qj o) 0 ds xs env)=AC true:=by rfl)
  (hd:o.dst=AC d:=by rfl)(hN:Nat.blt d N=true:=by rfl)(hc:YH cat xs.length=AC (0,c,c):=by rfl)(hcH:Nat.beq c Hs.length=true:=by rfl):DK P N m bs cat l ds env n K B Hs X (o::r) xs:=
 .wo (Yn (Qy hg) hd hN h (WO.nil YW.mk)) k hc hd hcH
def Wo(T:Fa)(o:AM)(e:Env)(x:A):Nat->AA Qd->Prop
 |0,_=>True
 |k+1,Y::r=>Hv T o e Y=AC x/\Wo T o e x k r
 |_+1,[]=>False
theorem kQ{T:Fa}{o:AM}{e:Env}{x:A}:∀{k:Nat} {r:AA Qd},Wo T o e x k r->∀j,j<k->Hv T o e (r.getD j [])=AC x
 |0,_,_,j,hj=>(by omega)
 |k+1,[],h,_,_=>h.elim
 |k+1,Y::r,h,0,_=>h.1
 |k+1,Y::r,h,j+1,hj=>by
  have:=kQ h.2 j (by omega)
  grind
theorem ke:∀(n lo:Nat),∀p∈cV lo n,lo<=p.1/\p.1<=lo+n
 |0,lo,p,h=>by cases h with|head=>omega|tail _ h=>cases h
 |n+1,lo,p,h=>by
  rcases X7.1 h with rfl|h
  .omega
  .have:=ke n _ p h;omega
def SD(P:AK)(N:Nat)(l:AA AM)(o:AM)(e:Env)(d:Nat)(x:A):Nat->AA Qd->Prop
 |0,_=>True
 |k+1,Y::r=>WO P Y.length N l.toArray [o] e Y (YW (up e d x) Y)/\SD P N l o e d x k r
 |_+1,[]=>False
theorem pW{e:Env}:∀{k:Nat} {r:AA Qd},SD P N l o e d x k r->∀j,j<k->WO P (r.getD j []).length N l.toArray [o] e (r.getD j []) (YW (up e d x) (r.getD j []))
 |0,_,_,j,hj=>(by omega)
 |k+1,[],h,_,_=>h.elim
 |k+1,Y::r,h,0,_=>h.1
 |k+1,Y::r,h,j+1,hj=>by
  have:=pW h.2 j (by omega)
  grind
theorem J4{lo:Nat}(h:SD P N l o (Q3 (Qj o) 0 ds xs env) d x (hi+1-lo) (X::Hs))(k:DK P N m bs cat l ds env n K B Hs X r (xs++[x]))
  (j:YH cat xs.length=AC (0,lo,hi):=by rfl)(hd:o.dst=AC d:=by rfl)(hcH:Nat.beq hi Hs.length=true:=by rfl)(hle:Nat.ble lo hi=true:=by rfl):DK P N m bs cat l ds env n K B Hs X (o::r) xs:=
 .add (λys Zs hn hf ho=>Y_ j λp f=>by
  have e:=gg _ _ p f;have g:=XR hle;have hb:=ke (hi-lo) lo p f;have t:=XQ hcH;rw[<- e];have q:=pW h (Hs.length-p.1) (by omega);have y:(Hs.reverse++X::Zs).getD p.1 []=(X::Hs).getD (Hs.length-p.1) []:=by
   grind
  rw[y];exact Mj ho YV q hd) k
theorem DK.vs(z:IV P T){lo:Nat}(h:Wo T o (Q3 (Qj o) 0 ds xs env) x (hi+1-lo) (X::Hs))(k:DK P N m bs cat l ds env n K B Hs X r (xs++[x]))
  (q:YH cat xs.length=AC (0,lo,hi))(j:o.dst=AC d)(f:Nat.beq hi Hs.length=AE)(hg:Yc ⟨l⟩ o (Q3 (Qj o) 0 ds xs env)=AC AE)(y:Nat.blt d N=AE)(g:Nat.ble lo hi=AE):DK P N m bs cat l ds env n K B Hs X (o::r) xs:=by
 refine J4 ?_ k q j f g;generalize hi+1-lo=c at h;generalize X::Hs=L at h
 induction c generalizing L with
 |zero=>trivial
 |succ c t=>
  cases L with
  |nil=>exact h.elim
  |cons Y L=>exact⟨Yn (Qy hg) j y (Ml z h.1) (WO.nil YW.mk),t L h.2⟩
def ft(o:AM)(e:Env):AB Nat:=match o.op with
 |.load _ (.global _)=>AF
 |.load _ x=>match DJ e x with
  |.mk (.ptr b _)=>AC b
  |_=>AF
 |_=>AF
theorem Qlm{T:Fa}{e:Env}{b:Nat}{Y Z:Qd}(h:ft o e=AC b)(j:Z[b]?=Y[b]?):Hv T o e Z=Hv T o e Y:=by
 have k:∀{x:Operand} {d:Nat},DJ e x=.mk (.ptr b d)->M3 Z (DJ e x)=M3 Y (DJ e x):=λq=>by
  rw[q];simp only[M3,Mh,j]
 unfold ft at h;unfold Hv;split at h
 .cases h
 .rename_i t x m f;split at h
  .rename_i n d q;cases h;rw[f];cases x with
   |global g=>exact absurd rfl (m g)
   |_=>simp only[k q]
  .cases h
 .cases h
theorem _H(hT:IV P T){lo b:Nat}(hl:ft o (Q3 (Qj o) 0 ds xs env)=AC b)(h:Wo T o (Q3 (Qj o) 0 ds xs env) x (Hs.length+1-lo) (X::Hs))(k:DK P N m bs cat l ds env n K ((b,X[b]?)::B) Hs X r (xs++[x]))
  (M:YH cat xs.length=AC (0,lo,hi))(F:o.dst=AC d)(g:Nat.ble lo Hs.length=AE)(f:Nat.ble hi bs.length=AE)(hg:Yc ⟨l⟩ o (Q3 (Qj o) 0 ds xs env)=AC AE)(Q:Nat.blt d N=AE):DK P N m bs cat l ds env n K B Hs X (o::r) xs:=by
 have k':DK P N m bs cat l ds env n K ((b,X[b]?)::B) Hs X (o::r) xs:=.add (λH Zs hn hf ho=>Y_ M λp G=>by
  have e:=gg _ _ p G;have g:=XR g;have f:=XR f;have hb:=ke (hi-lo) lo p G;rw[<- e];have y:Hv T o (Q3 (Qj o) 0 ds xs env) ((Hs.reverse++X::Zs).getD p.1 [])=AC x:=by
   rcases VB Hs.length p.1 with q|q
   .have h0:=kQ h 0 (by omega);obtain⟨j,hj⟩:∃j,p.1=Hs.length+1+j:=⟨p.1-Hs.length-1,by omega⟩;have E:(Hs.reverse++X::Zs).getD p.1 []=Zs.getD j []:=by grind
    have z:j<Zs.length:=by omega
    have V:=(hf Zs[j] (Ve z)).1;have W:Zs.getD j []=Zs[j]:=by grind
    rw[E,W,Qlm hl V];exact h0
   .have y:=kQ h (Hs.length-p.1) (by omega);have E:(Hs.reverse++X::Zs).getD p.1 []=(X::Hs).getD (Hs.length-p.1) []:=by grind
    rw[E];exact y
  exact Mj ho YV (Yn (Qy hg) F Q (Ml hT y) (WO.nil YW.mk)) F) k
 intro O;obtain⟨H,Zs,Y,h1,L,t,R,J⟩:=k' O;exact⟨H,Zs,Y,h1,L,⟨t.1,t.2.1,λZ hZ=>(t.2.2 Z hZ).2⟩,R,J⟩
end
def room(n:Int):AB Nat:=bif AG (0<n)&&AG (n<=4294967296)then AC n.toNat else AF
variable {T T' et t:Nat}{y:Operand}{α:Type}
variable {e:α->AA A}{l l':AA α}
section
variable {P:AK} {o:AM} {env:Env} {H:Qd}
theorem W8{d i:Nat}{x x':CW}(hH:H[i]?=AC x)(e:x=x'):Le d env H env (H.set i x'):=by
 grind[List.set_getElem_self,Le.refl]
theorem RL.put{ro:Nat->Prop}{σ:Ch}{w:AJ}{k:Nat}:∀{a:Nat} {es fs:AA (AA A)} {l m:AA AL},RL ro σ w k es l->a+fs.length<=es.length->Sw.allK k fs->LR ro σ w fs.flatten m->(∀v∈m,QC v)->
  RL ro σ w k (es.take a++fs++es.drop (a+fs.length)) (Sw.splice l (a*k) m)
 |0,es,[],l,m,h,hn,hk,hm,hp=>by
  obtain rfl:m=[]:=hm;simpa[Sw.splice]using h
 |0,[],f::fs,l,m,h,hn,hk,hm,hp=>by simp at hn
 |0,c::es,f::fs,l,m,⟨l1,l2,h1,h2,h3,h4⟩,hn,hk,hm,hp=>by
  subst h1;have hl1:=h3.1.length;have hml:=hm.length;rw[Vm,X3]at hml;have e1:m.take k++m.drop k=m:=Xy _ _;have q1:LR ro σ w f (m.take k):=by have:=hm.take k;rwa [Vm,X8 (by rw[hk.1];omega),VI (by rw[hk.1];omega)]at this
  have q2:=by have:=hm.drop k;rwa [Vm,X9 (by rw[hk.1];omega),List.drop_of_length_le (by rw[hk.1];omega),Vi]at this
  have d:=RL.put (a:=0) h4 (by grind) hk.2 q2 (λv g=>hp v (List.mem_of_mem_drop g));simp only[List.take_zero,Vi,Xv,Nat.zero_mul,Sw.splice]at d⊢;refine⟨m.take k,m.drop k++l2.drop (m.drop k).length,?_,hk.1,⟨q1,λv g=>hp v (List.mem_of_mem_take g)⟩,by simp_all⟩;have j:k<=m.length:=by rw[hml,hk.1];omega
  rw[<- Vj,e1];congr 1
  grind[List.drop_length_add_append]
 |a+1,[],fs,l,m,h,hn,hk,hm,hp=>by simp at hn
 |a+1,c::es,fs,l,m,⟨l1,l2,h1,h2,h3,h4⟩,hn,hk,hm,hp=>by
  subst h1;have hl1:=h3.1.length;have d:=RL.put (a:=a) h4 (by simp at hn;omega) hk hm hp;refine⟨l1,Sw.splice l2 (a*k) m,?_,h2,h3,?_⟩
  .have e1:(a+1)*k=l1.length+a*k:=by rw[Xm];omega
   unfold Sw.splice;rw[e1,Vc,show l1.length+a*k+m.length=l1.length+(a*k+m.length)from by omega,Vb];simp
  .have n:a+1+fs.length=(a+fs.length)+1:=by omega
   simpa[n]using d
def Py(P:AK)(H:Qd)(x:A)(k:Nat)(es:AA (AA A)):Prop:=
 ∀fr ro σ w v,Ca fr ro σ H w->VR ro σ w x v->(∃a c,v=.slice a es.length c)/\
  ∀j,j<=es.length->allK k (es.take j)/\ ∃l,(Builtin.firstCells k j v).run P w=.ok l.toArray w/\LR ro [] w (es.take j).flatten l/\ ∀v∈l,QC v
theorem s9{fr ro:Nat->Prop}{σ:Ch}{w:AJ}{k j b d n c:Nat}{es:AA (AA A)}(h:RR ro [] w b k es d)(q:j<=es.length):
  allK k (es.take j)/\ ∃l,(Builtin.firstCells k j (.slice (AC ⟨b,d,AF⟩) n c)).run P w=.ok l.toArray w/\LR ro [] w (es.take j).flatten l/\ ∀v∈l,QC v:=by
 obtain⟨g,m,f⟩:=(h.take j).flat;rw[Xx,XA q]at f;obtain⟨l,t,x⟩:=lT (c:=c) g f;exact⟨m,l,(t w rfl),x⟩
theorem l7{k n c:Nat}{a:AB Addr}{w:AJ}:(Builtin.firstCells k 0 (.slice a n c)).run P w=.ok #[] w:=by
 cases a<;>simp[go_sem]
theorem _O{k:Nat}:Py P H (.rsl k (l.map e)) k (l.map e):=by
 intro fr n σ w v s ⟨a,c,h1,h2,d⟩;subst h1;refine⟨⟨a,c,rfl⟩,λj h=>?_⟩;rcases d with d|⟨b,g,rfl,m,f⟩
 .obtain rfl:j=0:=by grind
  exact⟨trivial,[],l7,rfl,by simp⟩
 .exact s9 (fr:=fr) (σ:=σ) f h
theorem Py.osl{i s n k t:Nat}{es d:AA (AA A)}(hH:H[i]?=AC (.row t k es))(he:(es.drop s).take n=d)(O:s+n<=es.length):Py P H (.osl i s n k) k d:=by
 intro fr N σ w v sm h;have G:d.length=n:=by grind
 rcases h with⟨rfl,rfl⟩|⟨b,p,f,Q,m,F,rfl,q,⟨L,z⟩,M,J⟩
 .have e:d=[]:=(by grind);subst e;refine⟨⟨AF,0,rfl⟩,λj E=>?_⟩;obtain rfl:j=0:=by omega
  exact⟨trivial,[],l7,rfl,by simp⟩
 .rw[G];refine⟨⟨_,f,rfl⟩,λj E=>?_⟩;obtain⟨l,y,B⟩:=sm.blk i _ _ F hH;have g:=((YR (pre:=[]) (by simpa using y) B).drop s).take n;rw[he]at g;by_cases x:0<f
  .obtain rfl:=q x;simpa using s9 (fr:=fr) (σ:=σ) g (by omega)
  .obtain rfl:j=0:=by omega
   exact⟨trivial,[],l7,rfl,by simp⟩
theorem _N{b k:Nat}{r:AA α}{a c:Int}(h:Dd l a c=AC r)(hH:H[b]?=AC (.row t k (l.map e)):=by rfl):Py P H (.osl b (0+a.toNat) (c.toNat-a.toNat) k) k (r.map e):=by
 obtain⟨j,f,g,d⟩:=SV h;refine Py.osl hH ?_ (by grind);rw[<- d, <- List.map_drop, <- List.map_take,Xv,List.drop_take]
def Pw(l:AA α)(a c:Int)(m:AA α):AB (AA α):=AC (l.take a.toNat++m.take (c.toNat-a.toNat)++l.drop (a.toNat+min m.length (c.toNat-a.toNat)))
theorem _Y{r m:AA α}{a c:Int}(h:Dd l a c=AC r)(d:Pw l a c m=AC l'):l.length=l'.length:=by
 obtain⟨g,f,j,_⟩:=SV h;rw[<- XZ d]
 grind
theorem Qot{m:AA α}(d:Pw l 0 l.length m=AC l'):l.length=l'.length:=by
 rw[<- XZ d]
 grind
theorem rJ{c:Call}{k b a n:Nat}{x:Operand}{ya:A}{m:AA α}(ae:a+n<=l.length)(af:l.take a++m.take n++l.drop (a+min m.length n)=l')(hT:∀w,(underlying T).run P w=.ok (.slice et) w)(E:∀w,(sizeOf et).run P w=.ok k w)(hs:Py P H ya k (m.map e))
  (ho:o.op=.call c)(hc:c={callee:=.builtin .copy,args:= #[x,y],argTypes:= #[T,T']})(hx:CQ env x=.osl b a n k)(hH:H[b]?=AC (.row t k (l.map e)))(hy:CQ env y=ya):
  D3 P o env H (.int .i64 (min m.length n:Nat)) (H.set b (.row t k (l'.map e))):=by
 intro Y J σ N ac w r;have B:=Qq r x;rw[hx]at B;have h2:=Qq r y;rw[hy]at h2;obtain⟨⟨ay,cy,W⟩,q2⟩:=hs Y J σ w _ r.sim h2;rw[X2]at W q2;obtain⟨q3,O,M,V,q6⟩:=q2 (min m.length n) (Nat.min_le_left _ _);have h:((m.map e).take (min m.length n)).length=min m.length n:=by simp
 have Q:l'.map e=(l.map e).take a++(m.map e).take (min m.length n)++(l.map e).drop (a+((m.map e).take (min m.length n)).length):=by
  grind[List.map_take,List.map_drop]
 have f:(Builtin.copy_ #[T,T'] o.type #[ac.eval x,ac.eval y]).run P w=.ok (.int .i64 (min m.length n:Nat)) w->min m.length n=0->
   ∃v w' ro' τ,(execOp ac.eval o).run P w=.ok (.value v) w'/\VR ro' (σ++τ) w' (.int .i64 (min m.length n:Nat)) v/\Ca Y ro' (σ++τ) (H.set b (.row t k (l'.map e))) w'/\Qm Y J w ro' w':=by
  intro q hz;have hs:H.set b (.row t k (l'.map e))=H:=by
   have:l'.map e=l.map e:=by simp_all
   grind[List.set_getElem_self]
  refine⟨_,w,J,[],?_,rfl,by simpa[hs]using r.sim,Qm.refl _ _ _⟩;subst hc;generalize ac.eval=ρ at*
  simp_all[execOp,resolve,invoke,builtin]
 have F:∀j:Nat,goInt j=.int .i64 j:=λ_=>rfl;rcases B with⟨L,B⟩|⟨bb,p,ad,t',mm,B,h3,h4,⟨h5,ag⟩,h6,h7⟩
 .refine f ?_ (by omega);rw[W]at M⊢;rw[B];have:Nat.min m.length 0=min m.length n:=by rw[L]
  simp only[Builtin.copy_,XG,XE,XF,Vn,hT,E,Result.andThen,Builtin.lenOf,Vo,this,M,F]
 .have d:∀R:Result Unit,(storeCells ⟨bb,p,AF⟩ O).run P w=R->(Builtin.copy_ #[T,T'] o.type #[ac.eval x,ac.eval y]).run P w=R.andThen λ_ w=>.ok (.int .i64 (min m.length n:Nat)) w:=by
   intro R hR;rw[W]at M⊢;rw[h3];have:Nat.min m.length n=min m.length n:=rfl;simp only[Builtin.copy_,XG,XE,XF,Vn,hT,E,Result.andThen,Builtin.lenOf,Vo,this,M,F,hR]
  by_cases L:min m.length n=0
  .have z:O=[]:=by
    have:=V.length;rw[L]at this;exact VJ.1 (by simpa using this)
   refine f ?_ L;have:=d (.ok () w) (by rw[z];rfl);rw[this];rfl
  .obtain rfl:=h4 (by omega);obtain⟨l0,g1,g2⟩:=r.sim.blk b _ _ B hH;have X:=g2.length;have z:=V.length;rw[YZ q3,h]at z;have ab:a*k+(min m.length n)*k<=l0.length:=by
    rw[<- Xz];refine XV (XB k ?_) X;rw[X2];omega
   have G:=Yz (P:=P) (vs:=O) (a*k) 0 g1 (by omega) q6;rw[Xw]at G;have q:=d _ G;have g:=r.sim.set (x':=.row t k (l'.map e)) (obj:=.cells (splice l0 (a*k) O).toArray t (0,0)) B hH rfl
    (λy hy=>Jw g1 (Yy (by omega)) y hy)
    (λex aa=>⟨_,aa,by
     rw[Q];exact(RL.put g2 (by rw[h,X2];omega) q3 V q6).mono ex.nil⟩)
   refine⟨_,_,J,[],?_,rfl,by simpa using g.1,g.2⟩;subst hc;generalize ac.eval=ρ at*;simp only[execOp,ho,resolve,Vn,Vo,Result.andThen,invoke,builtin,XI,Vk,Vl,q]
theorem QmF{c:Call}{k b:Nat}{x:Operand}{f:A}{m:AA α}(h:Pw l 0 l.length m=AC l')(n:∀w,(underlying T).run P w=.ok (.slice et) w)(d:∀w,(sizeOf et).run P w=.ok k w)(g:Py P H f k (m.map e))
  (j:o.op=.call c:=by rfl)(hc:c={callee:=.builtin .copy,args:= #[x,y],argTypes:= #[T,T']}:=by rfl)(hx:CQ env x=.osl b 0 l.length k:=by rfl)(hH:H[b]?=AC (.row t k (l.map e)):=by rfl)(hy:CQ env y=f:=by rfl):
  D3 P o env H (.int .i64 (min m.length l.length:Nat)) (H.set b (.row t k (l'.map e))):=by
 refine rJ (by omega) ?_ n d g j hc hx hH hy;rw[<- XZ h];rfl
theorem QmG{c:Call}{k b:Nat}{x:Operand}{f:A}{q m:AA α}{i j:Int}(hi:Dd l i j=AC q)(h:Pw l i j m=AC l')(z:∀w,(underlying T).run P w=.ok (.slice et) w)(d:∀w,(sizeOf et).run P w=.ok k w)(g:Py P H f k (m.map e))
  (n:o.op=.call c:=by rfl)(hc:c={callee:=.builtin .copy,args:= #[x,y],argTypes:= #[T,T']}:=by rfl)(hx:CQ env x=.osl b (0+i.toNat) (j.toNat-i.toNat) k:=by rfl)(hH:H[b]?=AC (.row t k (l.map e)):=by rfl)(hy:CQ env y=f:=by rfl):
  D3 P o env H (.int .i64 (min m.length (j.toNat-i.toNat):Nat)) (H.set b (.row t k (l'.map e))):=by
 obtain⟨G,F,B,E⟩:=SV hi;refine rJ (by omega) (XZ h) z d g n hc ?_ hH hy
 grind
end
open Go.MapKept
section
variable {fr ro ro':Nat->Prop} {σ:Ch} {H:Qd} {w:AJ}
end
theorem tg{S B:Type}{d D:CG S B}{x:B}(hb:∀b,d=.d b->D=.d b)(h:AC (CG.d x)=AC d):D=.d x:=hb x (Oi h).symm
end Go.Sw
namespace Go.Sw
open Option renaming some→AC,none→AF
open Bool renaming false→AD,true→AE
open Decidable renaming decide→AG
open Go renaming World→AJ,Program→AK,Value→AL,Oper→AM
section
variable {P:AK} {o:AM} {env:Env} {H:Qd} {α:Type} {e:α->AA A}
end
open Go.MapKept
section
variable {P:AK} {o:AM} {env:Env} {H:Qd}
variable {T kt et:Nat} {α β:Type} [DecidableEq α] {ek:α->A} {ev:β->A} {x y:Operand} {i:Nat} {l:AA (α×β)} {k:α} {z0:β} {z:AL}
end
section
variable {fr ro:Nat->Prop} {σ:Ch} {H:Qd} {w:AJ}
theorem Ca.shutAny(s:Ca fr ro σ H w){i b:Nat}{F:CW}(hσ:σ[i]?=AC (AC b))(hH:H[i]?=AC F)(m:F.live=AE):
  Ca fr (λc=>ro c\/c=b) σ (H.set i .dead) w:=by
 have hown:=s.own i b _ hσ hH m;have ext:DL ro σ w (λc=>ro c\/c=b) σ w:=⟨λ_ q=>.inl q,λ_ _=>rfl,λ_ _ q=>q,λ_ _ q=>q⟩;have f:∀(j:Nat) (v:CW),(H.set i .dead)[j]?=AC v->v≠ .dead->j≠i/\H[j]?=AC v:=by
  grind
 refine⟨by rw[X4];exact s.len,s.roOk.to (λ_ q=>.inl q) (λ_ _=>rfl) ?_,s.frLt,?_,?_,?_,?_,s.hidTo (· = ·) Ym (XT _) (λj d x c T J Q O=>O.elim id λq=>((s.hid j d x c T J Q).ne i b _ hσ hH m q).elim) (λ_ _ _ _ _ _ _ q=>q) λj d y G R P=>.inl ⟨j,y,rfl,G,(f j y R (gK P)).2,id,λ_ q=>q⟩⟩
 .rintro c (q|rfl)
  .exact s.roLt c q
  omega
 .rintro c (q|rfl)
  .exact s.roFr c q
  grind
 .intro j c v h g k;obtain⟨e,g⟩:=f j v g (CW.nd k);obtain⟨N,V,L⟩:=s.own j c v h g k;refine⟨N,?_,L⟩;rintro(q|rfl)
  .exact V q
  .exact e (s.inj j i c v _ h hσ g hH k m)
 .intro j t c v E h g k M n B;exact s.inj j t c v E h g (f j v k (CW.nd n)).2 (f t E M (CW.nd B)).2 n B
 .intro j y v h g;by_cases z:v≠ .dead
  .exact(s.blk j y v h (f j v g z).2).keep ext (λ_ _ _=>rfl) (λ_ _ _ _=>rfl)
  .obtain rfl:v=.dead:=Classical.not_not.1 z;trivial
def ji(H:Qd):AA Nat->Qd
 |[]=>H
 |i::l=>ji (H.set i .dead) l
theorem Ca.shutL:∀{l:AA Nat} {ro:Nat->Prop} {H:Qd} (s:Ca fr ro σ H w),l.Nodup->(∀i∈l,∃x,H[i]?=AC x/\x.live=AE)->
  ∃ro',Ca fr ro' σ (ji H l) w/\(∀c,ro c->ro' c)/\ ∀i∈l,∀b,σ[i]?=AC (AC b)->ro' b
 |[],ro,H,s,_,_=>⟨ro,s,λ_ q=>q,λ_ h=>by cases h⟩
 |i::l,ro,H,s,hn,hl=>by
  rw[List.nodup_cons]at hn;obtain⟨x,hx,hxl⟩:=hl i (by simp);have rest:∀i'∈l,∃x,(H.set i .dead)[i']?=AC x/\x.live=true:=by
   grind
  have k:∃q,σ[i]?=AC q:=by
   have:i<σ.length:=by rw[s.len];grind
   simp_all
  obtain⟨q,m⟩:=k;cases q with
  |some b=>
   obtain⟨ro',f,j,t⟩:=Ca.shutL (s.shutAny m hx hxl) hn.2 rest;refine⟨ro',f,(by grind),λi' g n d=>?_⟩
   grind
  |none=>
   obtain⟨ro',f,j,t⟩:=Ca.shutL (s.kill i) hn.2 rest;refine⟨ro',f,j,λi' g n d=>?_⟩
   grind
end
end Go.Sw
namespace Go.Sw
open Option renaming some→AC,none→AF
open Bool renaming false→AD,true→AE
open Decidable renaming decide→AG
open Go renaming World→AJ,Program→AK,Value→AL,Oper→AM
structure HC (α β:Type) where
 number:Int
 r0:List α
 r1:List α
 r2:List α
 reports:List β
 appeal:Bool
 deriving DecidableEq
structure FK (α β:Type) where
 T:Nat
 tF:Nat
 kF:Nat
 tR:Nat
 kR:Nat
 eF:α->List A
 eR:β->List A
section
variable {α β:Type} (K:FK α β)
def zV(b:Nat)(x:HC α β):AA A:=[.int .i64 x.number,.osl (b+1) 0 x.r0.length K.kF,.osl (b+2) 0 x.r1.length K.kF,.osl (b+3) 0 x.r2.length K.kF,.osl (b+4) 0 x.reports.length K.kR,.bool x.appeal]
def fk(b:Nat)(x:HC α β):AA CW:=[.cells K.T (zV K b x),.row K.tF K.kF (x.r0.map K.eF),.row K.tF K.kF (x.r1.map K.eF),.row K.tF K.kF (x.r2.map K.eF),.row K.tR K.kR (x.reports.map K.eR)]
def ND:Nat->AA (HC α β)->AA CW
 |_,[]=>[]
 |b,x::l=>fk K b x++ND (b+5) l
def nR(x:HC α β):AA A:=[.int .i64 x.number,.rsl K.kF (x.r0.map K.eF),.rsl K.kF (x.r1.map K.eF),.rsl K.kF (x.r2.map K.eF),.rsl K.kR (x.reports.map K.eR),.bool x.appeal]
def a_:Nat->AA (HC α β)->AA (Int×Nat)
 |_,[]=>[]
 |b,x::l=>(x.number,b)::a_ (b+5) l
def iW(j:Nat):A:=.ptr j 0
def tv(x:HC α β):A:=.rp (nR K x)
def jU(fs:AA (HC α β)):AA (Int×HC α β):=fs.map λx=>(x.number,x)
theorem rb(b:Nat)(x:HC α β)(l:AA (HC α β)):ND K b (x::l)=fk K b x++ND K (b+5) l:=rfl
theorem Ql3(b:Nat)(x:HC α β):(fk K b x).length=5:=rfl
end
section
variable {fr ro ro':Nat->Prop} {σ:Ch} {w:AJ}
theorem ga(sub:∀c,ro c->ro' c){i t k:Nat}{es:AA (AA A)}{v:AL}(g:∀b,σ[i]?=AC (AC b)->BR ro σ w (.row t k es) (AC b)/\ro' b)(h:VR ro σ w (.osl i 0 es.length k) v):VR ro' [] w (.rsl k es) v:=by
 rcases h with⟨L,h⟩|⟨b,p,d,J,m,B,h,G,⟨f,n⟩,F,E⟩
 .have:es=[]:=(by grind);subst this;exact⟨AF,0,h,XT _,.inl rfl⟩
 .refine⟨_,d,h,f,?_⟩;by_cases y:es=[]
  .exact .inl y
  .right;have H:0<d:=Vg (by grind) f;obtain⟨⟨l,j,x⟩,z⟩:=g b B;refine⟨b,0,by simp,z,?_⟩;have:=YR (pre:=[]) (by simpa using j) x;exact this.keep ⟨sub,λ_ _=>rfl,λ_ _ q=>q,λ_ _ q=>q⟩ rfl
theorem oN{ro:Nat->Prop}{w:AJ}{b t:Nat}:∀{cs:AA A} {pre l:AA AL},w.heap[b]?=AC (.cells (pre++l).toArray t (0,0))->LR ro [] w cs l->(∀v∈l,QC v)->CR ro [] w b cs pre.length
 |[],pre,l,_,_,_=>trivial
 |a::cs,pre,l,hb,hl,hp=>by
  obtain⟨v,l',rfl,h1,h2⟩:=hl;refine⟨⟨v,?_,hp v (by simp),h1⟩,?_⟩
  .unfold World.cell?
   grind
  .have:=oN (pre:=pre++[v]) (by simpa using hb) h2 (by grind)
   grind
variable {α β:Type} (K:FK α β)
theorem _R(sub:∀c,ro c->ro' c){b:Nat}{x:HC α β}{v:AL}(j:∀(d c:Nat) (y:CW),(fk K b x)[d]?=AC y->σ[b+d]?=AC (AC c)->BR ro σ w y (AC c)/\ro' c)(h:VR ro σ w (.ptr b 0) v):VR ro' [] w (.rp (nR K x)) v:=by
 obtain⟨c,F,n⟩:=h;obtain⟨⟨l,m,f,B⟩,J⟩:=j 0 c _ rfl F;refine⟨c,0,n,J,(oN (pre:=[]) (by simpa using m) ?_ B)⟩;obtain⟨v0,M,rfl,q,f⟩:=f;obtain⟨E,N,rfl,W,f⟩:=f;obtain⟨H,T,rfl,O,f⟩:=f;obtain⟨k,P,rfl,V,f⟩:=f;obtain⟨G,Q,rfl,R,f⟩:=f;obtain⟨t,L,rfl,z,f⟩:=f;refine⟨v0,_,rfl,q,E,_,rfl,ga sub (λc g=>j 1 c _ rfl g) (by grind),H,_,rfl,ga sub (λc g=>j 2 c _ rfl g) (by grind),k,_,rfl,ga sub (λc g=>j 3 c _ rfl g) (by grind),
  G,_,rfl,ga sub (λc g=>j 4 c _ rfl g) (by grind),t,_,rfl,z,f⟩
theorem QoZ(sub:∀c,ro c->ro' c){ek:Int->A}(hek:∀(k:Int) (v:AL),VR ro σ w (ek k) v->VR ro' [] w (ek k) v):∀{b:Nat} {fs:AA (HC α β)} {es:AA MapEntry},(∀(d c:Nat) (y:CW),(ND K b fs)[d]?=AC y->σ[b+d]?=AC (AC c)->BR ro σ w y (AC c)/\ro' c)->
  ER ro σ w (Qn ek iW (a_ b fs)) es->ER ro' [] w (Qn ek (tv K) (jU fs)) es
 |b,[],es,_,h=>h
 |b,x::l,es,hb,h=>by
  obtain⟨e,l',rfl,h1,h2,h3⟩:=h;refine⟨e,l',rfl,hek _ _ h1,?_,?_⟩
  .refine _R K sub (λd c y hy hc=>hb d c y ?_ hc) h2
   grind[rb]
  .refine QoZ sub hek (λd c y hy hc=>hb (d+5) c y ?_ (by grind)) h3
   grind[rb,Ql3]
end
section
variable {fr ro:Nat->Prop} {σ:Ch} {w:AJ} {α β:Type} (K:FK α β)
end
open Go.Sort Go.Proofs Go.Shelf
end Go.Sw
namespace Go.Sw
open Option renaming some→AC,none→AF
open Bool renaming false→AD,true→AE
open Decidable renaming decide→AG
open Go renaming World→AJ,Program→AK,Value→AL,Oper→AM
structure Pl where
 b:Nat
 i0:Nat
 i1:Nat
 i2:Nat
 i3:Nat
def Pl.ix(p:Pl):AA Nat:=[p.b,p.i0,p.i1,p.i2,p.i3]
section
variable {α β:Type} (K:FK α β)
def jt(p:Pl)(x:HC α β):AA A:=[.int .i64 x.number,.osl p.i0 0 x.r0.length K.kF,.osl p.i1 0 x.r1.length K.kF,.osl p.i2 0 x.r2.length K.kF,.osl p.i3 0 x.reports.length K.kR,.bool x.appeal]
structure LT (H:Qd) (x:HC α β) (p:Pl):Prop where
 c:H[p.b]?=AC (.cells K.T (jt K p x))
 r0:H[p.i0]?=AC (.row K.tF K.kF (x.r0.map K.eF))
 r1:H[p.i1]?=AC (.row K.tF K.kF (x.r1.map K.eF))
 r2:H[p.i2]?=AC (.row K.tF K.kF (x.r2.map K.eF))
 r3:H[p.i3]?=AC (.row K.tR K.kR (x.reports.map K.eR))
abbrev Wr(α β:Type):=AA (HC α β×Pl)
structure He (lo:Nat) (H:Qd) (bk:Wr α β):Prop where
 laid:∀e∈bk,LT K H e.1 e.2
 own:∀e∈bk,e.2.ix.Nodup
 ne:bk.Pairwise λe f=>∀i∈e.2.ix,i∉f.2.ix
 lo:∀e∈bk,∀i∈e.2.ix,lo<=i
 num:(bk.map (·.1.number)).Nodup
variable {K} {lo:Nat} {H H':Qd} {bk l r:Wr α β} {e:HC α β×Pl} {x':HC α β} {p':Pl}
theorem He.nil:He K lo H []:=⟨(λ_ h=>by cases h),(λ_ h=>by cases h),List.Pairwise.nil,(λ_ h=>by cases h),List.nodup_nil⟩
theorem LT.lt(h:LT K H e.1 e.2):∀i∈e.2.ix,i<H.length:=by
 intro i d;have g:∀{j:Nat} {y:CW},H[j]?=AC y->j<H.length:=(by grind);simp[Pl.ix,X7,List.not_mem_nil,or_false]at d;rcases d with rfl|rfl|rfl|rfl|rfl
 .exact g h.c
 .exact g h.r0
 .exact g h.r1
 .exact g h.r2
 .exact g h.r3
theorem LT.keep(h:LT K H e.1 e.2)(k:∀i∈e.2.ix,H'[i]?=H[i]?):LT K H' e.1 e.2:=by
 refine⟨?_,?_,?_,?_,?_⟩
 .rw[k _ (by simp[Pl.ix])];exact h.c
 .rw[k _ (by simp[Pl.ix])];exact h.r0
 .rw[k _ (by simp[Pl.ix])];exact h.r1
 .rw[k _ (by simp[Pl.ix])];exact h.r2
 .rw[k _ (by simp[Pl.ix])];exact h.r3
theorem He.keep(h:He K lo H bk)(k:∀j,lo<=j->j<H.length->H'[j]?=H[j]?):He K lo H' bk:=
 ⟨λe he=>(h.laid e he).keep λi hi=>k i (h.lo e he i hi) ((h.laid e he).lt i hi),h.own,h.ne,h.lo,h.num⟩
theorem He.upd(h:He K lo H (l++e::r))(E:LT K H' x' p')(L:x'.number=e.1.number)(z:∀j,lo<=j->j<H.length->j∉e.2.ix->H'[j]?=H[j]?)
  (hi:∀i∈p'.ix,i∈e.2.ix\/H.length<=i)(J:p'.ix.Nodup)(O:lo<=H.length):He K lo H' (l++(x',p')::r):=by
 obtain⟨B,G,M⟩:=List.pairwise_append.1 h.ne;obtain⟨N,F⟩:=Xc.1 G;have mem:∀f∈l++(x',p')::r,f=(x',p')\/(f∈l++e::r/\ ∀i∈f.2.ix,i∉e.2.ix):=by
  intro f d
  grind
 refine⟨?_,?_,?_,?_,?_⟩
 .intro f d;rcases mem f d with rfl|⟨m,x⟩
  .exact E
  .exact(h.laid f m).keep λi hi=>z i (h.lo f m i hi) ((h.laid f m).lt i hi) (x i hi)
 .intro f d;rcases mem f d with rfl|⟨m,x⟩
  .exact J
  .exact h.own f m
 .refine List.pairwise_append.2 ⟨B,Xc.2 ⟨?_,F⟩,?_⟩
  .intro f d i n k;rcases hi i n with q|q
   .grind
   .have:=(h.laid f (by simp[d])).lt i k;omega
  .intro f d g y i k t;rcases X7.1 y with rfl|y
   .rcases hi i t with q|q
    .grind
    .have:=(h.laid f (by simp[d])).lt i k;omega
   grind
 .intro f d;rcases mem f d with rfl|⟨m,x⟩
  .intro i n;rcases hi i n with q|q
   .exact h.lo e (by simp) i q
   .omega
  .exact h.lo f m
 .have:=h.num
  grind
theorem He.add(h:He K lo H bk)(x:LT K H' x' p')(z:∀e∈bk,e.1.number≠x'.number)(m:∀j,lo<=j->j<H.length->H'[j]?=H[j]?)
  (hi:∀i∈p'.ix,H.length<=i)(y:p'.ix.Nodup)(E:lo<=H.length):He K lo H' (bk++[(x',p')]):=by
 have n:=h.keep m;have mem:∀f∈bk++[(x',p')],f∈bk\/f=(x',p'):=by
  simp
 refine⟨?_,?_,?_,?_,?_⟩
 .intro f k;rcases mem f k with q|rfl
  .exact n.laid f q
  .exact x
 .intro f k;rcases mem f k with q|rfl
  .exact h.own f q
  .exact y
 .refine List.pairwise_append.2 ⟨h.ne,by simp,λf k g B i d t=>?_⟩;have:=(h.laid f k).lt i d
  grind
 .intro f k i d;rcases mem f k with q|rfl
  .exact h.lo f q i d
  grind
 .rw[Xf];refine List.nodup_append.2 ⟨h.num,by simp,?_⟩
  grind
end
section
variable {fr ro ro':Nat->Prop} {σ:Ch} {w:AJ} {α β:Type} (K:FK α β)
def jb(bk:Wr α β):AA Nat:=bk.flatMap λe=>e.2.ix
theorem He.all{lo:Nat}{H:Qd}:∀{g:Wr α β},He K lo H g->(jb g).Nodup/\ ∀i∈jb g,lo<=i/\ ∃y,H[i]?=AC y/\y.live=true:=by
 intro g h;refine⟨?_,?_⟩
 .have m:=h.own;have k:=h.ne
  grind[jb]
 .intro i d;obtain⟨e,j,d⟩:=List.mem_flatMap.1 d;refine⟨h.lo e j i d,?_⟩;have f:=h.laid e j;simp[Pl.ix,X7,List.not_mem_nil,or_false]at d;rcases d with rfl|rfl|rfl|rfl|rfl
  .exact⟨_,f.c,rfl⟩
  .exact⟨_,f.r0,rfl⟩
  .exact⟨_,f.r1,rfl⟩
  .exact⟨_,f.r2,rfl⟩
  .exact⟨_,f.r3,rfl⟩
end
section
variable {α β:Type} (K:FK α β) {env:Env} {H:Qd}
end
section
variable {P:AK} {h0 N:Nat} {all:Array AM} {o:AM} {l:AA AM} {env:Env} {H:Qd} {Q:Qz}
end
section
variable {h0 n:Nat} {env env':Env} {H H':Qd}
end
section
variable {P:AK} {o:AM} {env:Env} {H:Qd} {α:Type}
end
section
variable {α β:Type}
def Rg(k:Int):HC α β:=⟨k,[],[],[],[],AD⟩
variable (K:FK α β) {lo:Nat} {H H':Qd} {bk:Wr α β}
def Ws(n:Nat):Pl:=⟨n,n+1,n+2,n+3,n+4⟩
def gY(n:Nat)(k:Int):Qd:=[.cells K.T (jt K (Ws n) (Rg k)),.row K.tF K.kF [],.row K.tF K.kF [],.row K.tF K.kF [],.row K.tR K.kR []]
theorem LT.new{k:Int}:LT K (H++gY K H.length k) (Rg k) (Ws H.length):=by
 have g:∀(j:Nat) (y:CW),(gY K H.length k)[j]?=AC y->(H++gY K H.length k)[H.length+j]?=AC y:=by
  grind
 exact⟨g 0 _ rfl,g 1 _ rfl,g 2 _ rfl,g 3 _ rfl,g 4 _ rfl⟩
theorem oo(n:Nat):(∀i∈(Ws n).ix,n<=i)/\(Ws n).ix.Nodup:=by
 simp_all[Pl.ix,Ws]
variable {K}
theorem He.new{k:Int}(h:He K lo H bk)(d:∀e∈bk,e.1.number≠k)(f:lo<=H.length):He K lo (H++gY K H.length k) (bk++[(Rg k,Ws H.length)]):=by
 refine h.add (LT.new K) d (by grind) (oo _).1 (oo _).2 f
theorem He.row{l r:Wr α β}{e:HC α β×Pl}{x':HC α β}{d:Pl}{i:Nat}{y:CW}(h:He K lo H (l++e::r))(J:lo<=H.length)(n:x'.number=e.1.number)(hi:i∈e.2.ix)(t:i≠e.2.b)(k:d.b=e.2.b)
  (hH:H'=(H.set i .dead++[y]).set e.2.b (.cells K.T (jt K d x')))
  (x:d.ix=e.2.ix.map λj=>bif Nat.beq j i then H.length else j)
  (F:H'[d.i0]?=AC (.row K.tF K.kF (x'.r0.map K.eF)))(G:H'[d.i1]?=AC (.row K.tF K.kF (x'.r1.map K.eF)))(q:H'[d.i2]?=AC (.row K.tF K.kF (x'.r2.map K.eF)))(m:H'[d.i3]?=AC (.row K.tR K.kR (x'.reports.map K.eR))):
  He K lo H' (l++(x',d)::r):=by
 have E:=h.laid e (by simp);have f:=E.lt;have z:e.2.b<H.length:=f _ (by simp[Pl.ix]);refine h.upd ⟨?_,F,G,q,m⟩ n ?_ ?_ ?_ J
 .grind
 .grind[List.getElem?_set_ne,Pl.ix]
 .grind
 .rw[x];have g:=h.own e (by simp);refine List.pairwise_map.2 (List.Pairwise.imp_of_mem ?_ g);intro a b L k B;cases N:Nat.beq a i with
  |true=>
   cases M:Nat.beq b i with
   |true=>simp_all
   |false=>grind
  |false=>
   grind
end
section
variable {fr ro:Nat->Prop} {σ:Ch} {H:Qd} {w:AJ}
theorem Ca.addIdle(s:Ca fr ro σ H w){x:CW}{z:AB Nat}(B:x.holds=AD)(P:BR ro (σ++[z]) w x z):Ca fr ro (σ++[z]) (H++[x]) w:=by
 have ext:DL ro σ w ro (σ++[z]) w:=⟨λ_ q=>q,λ_ _=>rfl,λ_ _ q=>q,(by grind)⟩;have O:=s.len;have L:x.live=false:=by
  cases q:x.live with
  |true=>rw[hY q]at B;exact B
  |false=>rfl
 have f:∀(j:Nat) (v:CW),(H++[x])[j]?=AC v->(j<H.length/\H[j]?=AC v)\/(j=H.length/\v=x):=by
  grind
 have hσ:∀(j:Nat) (n:AB Nat),j<H.length->(σ++[z])[j]?=AC n->σ[j]?=AC n:=by
  grind
 refine⟨by simp[O],s.roOk,s.frLt,s.roFr,λi b y m h t=>?_,λi j b y E m h t M J G=>?_,λi n y m h=>?_,
  s.hidTo (· = ·) Ym (XT _) (by simp) (by simp) λj d y Q R T=>.inl ?_⟩
 .rcases f i y h with⟨g,k⟩|⟨_,rfl⟩
  .exact s.own i b y (hσ i _ g m) k t
  grind
 .rcases f i y t with⟨g,k⟩|⟨_,rfl⟩
  .rcases f j E M with⟨F,N⟩|⟨_,rfl⟩
   .exact s.inj i j b y E (hσ i _ g m) (hσ j _ F h) k N J G
   grind
  grind
 .rcases f i y h with⟨g,k⟩|⟨r,rfl⟩
  .exact(s.blk i n y (hσ i _ g m) k).keep ext (λ_ _ _=>rfl) (λ_ _ _ _=>rfl)
  grind
 grind
end
section
variable {P:AK} {o:AM} {env:Env} {H:Qd}
theorem D3.litX{T e k n:Nat}{xs:AA Operand}{es:AA (AA A)}(E:ElemTy P T e k)(W:o.op=.buildSlice T n (Mi 0 xs).toArray)(V:xs.length=n)(J:Nat.ble (n*(k+1)) 16777216=AE)
  (X:(xs.all λx=>Yi (CQ env x))=AE)(M:Q2 env xs=es)(R:allK k es)(hp:es.flatten.all Yr=AE)(hd:YI es.flatten=AE):
  D3 P o env H (.osl H.length 0 n k) (H++[.frow e k es]):=by
 intro Y g σ N a w r;subst M;have O:=XR J;rw[Nat.mul_add]at O;obtain⟨l,h1,G⟩:=mJ r E V (XS (by omega)) X R;have F:LR g [] w (Q2 env xs).flatten l:=G.data hd;have f:∀b,b<w.heap.size->(w.alloc (.cells l.toArray e)).heap[b]?=w.heap[b]? :=λb hb=>Yx _ _ b hb;have t:w.heap.size<=(w.alloc (.cells l.toArray e)).heap.size:=by simp
 have s1:=r.sim.grown f t;have j:Qm Y g w g (w.alloc (.cells l.toArray e)):=Qm.alloc _ r.sim.roLt r.sim.frLt;have s2:=s1.addRo (by simp) (λq=>Nat.lt_irrefl _ (r.sim.frLt _ q)) (λi x m B Q=>Nat.lt_irrefl _ (r.sim.own i _ x m B Q).1)
  (λi d x m B Q=>Nat.lt_irrefl _ (r.sim.hid i d x _ m B (r.sim.hidKeep m B (λz=>f d (r.sim.own i d x m B z).1) (λb q=>f b (r.sim.roLt b q)) Q)).lt)
 have L:RL g [] (w.alloc (.cells l.toArray e)) k (Q2 env xs) l:=by
  have:=Je (rest:=[]) R (F.mono (j.ext0 [])) (G.plain hp)
  grind
 have h:(Q2 env xs).length=n:=by simp[Q2,V]
 have hl:l.length=n*k:=by rw[G.length,YZ R];grind
 have y:(w.alloc (.cells l.toArray e)).heap[w.heap.size]?=AC (.cells l.toArray e (0,0)):=Yw _ _;have s3:=s2.addIdle (x:=.frow e k (Q2 env xs)) (z:=AC w.heap.size) rfl
  ⟨.inr rfl,l,y,L.mono ⟨λ_ q=>.inl q,λ_ _=>rfl,λ_ _ q=>q,λ_ _ q=>q⟩,by rw[hl,h]⟩
 refine⟨_,_,λc=>g c\/c=w.heap.size,[AC w.heap.size],mH W a.eval h1,.inr ⟨w.heap.size,0,n,e,l.length,?_,rfl,λ_=>by simp,(by omega),?_,by grind⟩,s3,j.trans (Yb λ_ q=>.inl q)⟩
 .rw[<- r.sim.len];simp
 .unfold World.shape?;grind
theorem Le.frow{O s i n k t:Nat}{es:AA (AA A)}(G:lk env s=.osl i 0 n k)(hH:H[i]?=AC (.frow t k es))(F:es.length=n):Le O env H (up env s (.rsl k es)) H:=by
 intro V x σ N a w r;refine⟨x,σ,⟨r.sim,?_,r.size,r.defers⟩,λ_ q=>q,rfl⟩;intro d;simp only[lk];by_cases q:d=s
 .subst q;rw[VE];have:=r.env d;rw[G]at this;rcases this with⟨h,g⟩|⟨b,p,f,X,m,h,g,E,⟨Q,M⟩,P,T⟩
  .have:es=[]:=(by grind);subst this;exact⟨AF,0,by rw[g];rfl,XT _,.inl rfl⟩
  .obtain⟨B,l,j,L,R⟩:=r.sim.blk i _ _ h hH;refine⟨_,f,by rw[g,F],by omega,?_⟩;by_cases y:es=[]
   .exact .inl y
   .right;have J:0<f:=(by grind);have W:=E J;exact⟨b,0,by simp,B,(YR (pre:=[]) (by simpa using j) L)⟩
 .have:Nat.beq d s=false:=by
   cases z:Nat.beq d s with
   |true=>simp_all
   |false=>rfl
  rw[this];exact r.env d
end
open Go.MapKept
section
variable {P:AK} {kt et:Nat} {α β:Type} [DecidableEq α] {ek:α->A} {ev:β->A} {ro:Nat->Prop} {σ:Ch} {w:AJ} (K:JA P kt ek)
include K
variable {o:AM} {env:Env} {H:Qd} {T T' i:Nat} {x y:Operand} {l m:AA (α×β)} {k:α}
end
end Go.Sw
namespace Go.Sw
open Option renaming some→AC,none→AF
open Bool renaming false→AD,true→AE
open Decidable renaming decide→AG
open Go renaming World→AJ,Program→AK,Value→AL,Oper→AM
section
variable {P:AK} {h0 N:Nat} {all:Array AM} {o1 o2:AM} {l:AA AM} {env:Env} {H:Qd} {Q:Qz}
end
section
variable {P:AK} {o:AM} {env:Env} {H:Qd}
end
section
variable {P:AK} {o:AM} {env:Env} {H:Qd} {α:Type}
end
theorem Jn{h0:Nat}{env:Env}{H H':Qd}(e:H=H'):Le h0 env H env H':=e▸Le.refl h0 env H
section
variable {P:AK} {o:AM} {env:Env} {H:Qd}
end
section
variable {env:Env} {H:Qd}
theorem ZK{h0 i j m o' n k T:Nat}{x:CW}{d:AA A}(hi:H[i]?=AC x)(M:H[j]?=AC (.cells T d))(E:d[m]?=AC (.osl i o' n k))(z:Nat.beq i j=AD)(hh:Nat.ble h0 H.length=AE):
  Le h0 env H env ((H.set i .dead).set j (.cells T (d.set m (.osl H.length o' n k)))++[x]):=by
 intro fr G σ N a w r;have hiσ:i<σ.length:=by rw[r.sim.len];exact(XL.1 hi).1
 have hσ:σ[i]?=AC σ[i]:=XK hiσ;have ext:DL G σ w G (σ++[σ[i]]) w:=⟨λ_ q=>q,λ_ _=>rfl,λ_ _ q=>q,λ_ _ h=>hJ h⟩;have V:=r.sim.moved hi hσ;have f:j<H.length:=(XL.1 M).1;have J:i≠j:=λq=>by rw[q,VE]at z;cases z
 have g:(H.set i .dead++[x])[j]?=AC (.cells T d):=by
  rw[XM (by simpa using f),XP J];exact M
 have Q:(H.set i .dead).set j (.cells T (d.set m (.osl H.length o' n k)))++[x]=(H.set i .dead++[x]).set j (.cells T (d.set m (.osl H.length o' n k))):=by
  rw[List.set_append_left _ _ (by simpa using f)]
 rw[Q];refine⟨G,σ++[σ[i]],⟨V.weaken g rfl ?_,λq=>(r.env q).mono ext,r.size,r.defers⟩,λ_ q=>q,QR (by rw[r.sim.len];exact XR hh)⟩;have B:σ.length=H.length:=r.sim.len;intro y h;cases y with
 |none=>exact h
 |some b=>
  obtain⟨l,O,g2,W⟩:=h;refine⟨l,O,?_,W⟩;clear O W g Q M V
  induction d generalizing m l with
  |nil=>cases E
  |cons c d ih=>
   obtain⟨v,L,rfl,R,P⟩:=g2;cases m with
   |zero=>
    simp at E;subst E;refine⟨v,L,rfl,?_,P⟩;rcases R with h|⟨b,p,F,t,m,X,Y⟩
    .exact .inl h
    .refine .inr ⟨b,p,F,t,m,?_,Y⟩;rw[XM hiσ,hσ]at X;rw[<- B];simpa using X
   |succ m=>exact⟨v,L,rfl,R,ih (by simpa using E) L P⟩
theorem Io.ins{P:AK}{o:AM}{H':Qd}{T:Nat}{x y f:Operand}(j:o.op=.insert T x y f)(h:Io P {o with op:=.mapUpdate T x y f} env H H'):Io P o env H H':=by
 intro q n σ N a w r;obtain⟨g,d,τ,t,m,k⟩:=h q n σ N a w r;exact⟨g,d,τ,by simpa only[execOp,j]using t,m,k⟩
end
section
variable {P:AK} {o:AM} {env:Env} {H:Qd} {T kt et:Nat} {α β:Type} [DecidableEq α] {ek:α->A} {ev:β->A} {x y:Operand} {i:Nat} {l:AA (α×β)} {k:α} {z:AL} {zA:A}
end
open Go.Sort Go.Proofs Go.Shelf
def Wv(l:AA Int)(i:Int)(m:AA Int):AB (AA Int):=bif AG (0<=i)&&(AG (i<=l.length)&&(Nat.blt 0 m.length&&Nat.ble (l.length+m.length) YE))then AC (l.take i.toNat++m++l.drop i.toNat)else AF
variable {l:AA Int}
theorem p?{m r:AA Int}{i:Int}(h:Wv l i m=AC r):∃j:Nat,i=j/\j<=l.length/\0<m.length/\l.length+m.length<=YE/\r=l.take j++m++l.drop j:=by
 unfold Wv at h;cases q:AG (0<=i)&&(AG (i<=l.length)&&(Nat.blt 0 m.length&&Nat.ble (l.length+m.length) YE))with
 |false=>rw[q]at h;cases h
 |true=>
  rw[q]at h;cases h;simp only[XW,Vr]at q;obtain⟨k,g,f,d⟩:=q;exact⟨i.toNat,by omega,by omega,by simpa using f,XR d,rfl⟩
theorem Jy(b:Nat)(t:TypeId):∀(vs pre f d:AA AL) (w:AJ),f.length=vs.length->w.heap[b]?=AC (.cells (pre++f++d).toArray t (0,0))->
  w.setCells b pre.length vs={w with heap:=w.heap.setIfInBounds b (.cells (pre++vs++d).toArray t (0,0))}
 |[],pre,f,d,w,hl,hb=>by
  have:=VJ.1 hl;subst this;rw[World.setCells];obtain⟨h1,h2⟩:=Vd.1 hb;have:w.heap.setIfInBounds b (.cells (pre++[]++d).toArray t (0,0))=w.heap:=by
   apply Array.ext_getElem?;intro i;rw[Vf];by_cases h:b=i
   .subst h;rw[Vt rfl,Vt h1,hb]
   .rw[Vs h]
  rw[this]
 |v::vs,pre,f,d,w,hl,hb=>by
  cases f with
  |nil=>cases hl
  |cons z f=>
   simp[X0,Nat.add_right_cancel_iff]at hl;have hbl:=(Vd.1 hb).1;have g:w.setCell ⟨b,pre.length,AF⟩ v={w with heap:=w.heap.setIfInBounds b (.cells ((pre++[v])++f++d).toArray t (0,0))}:=by
    unfold World.setCell;congr 1;apply Array.ext_getElem?;intro i;rw[Array.getElem?_modify,Vf];by_cases h:b=i
    .subst h;rw[Vt rfl,Vt rfl,Vt hbl,hb];simp
    .rw[Vs h,Vs h]
   rw[World.setCells,g];have:=Jy b t vs (pre++[v]) f d {w with heap:=w.heap.setIfInBounds b (.cells ((pre++[v])++f++d).toArray t (0,0))} hl (by
    rw[Vf,Vt rfl,Vt hbl])
   rw[X3,List.length_singleton]at this;rw[this];simp
theorem SZ(l:AA Int):∀v∈l.map (Value.int .i64),v.oneCell'=true:=by
 intro v d;obtain⟨x,_,rfl⟩:=Xe.1 d;rfl
theorem kE{ro:Nat->Prop}{σ:Ch}{w:AJ}:∀l:AA Int,LR ro σ w ((l.map λx=>[A.int .i64 x]).flatten) (l.map (Value.int .i64))
 |[]=>rfl
 |x::l=>⟨_,_,rfl,rfl,kE l⟩
theorem r7(l:AA Int):∀v∈l.map (Value.int .i64),QC v:=by
 intro v d;obtain⟨x,_,rfl⟩:=Xe.1 d;trivial
theorem li:∀l:AA Int,allK 1 (l.map λx=>[A.int .i64 x])
 |[]=>trivial
 |_::l=>⟨rfl,li l⟩
variable {t:Nat}{w:AJ}
theorem za{fr ro:Nat->Prop}{σ:Ch}{B:CW}{r:AA Int}{W:AJ}{rest:AA AL}(s:Ca fr ro σ [.row t 1 (l.map λx=>[A.int .i64 x]),B] w)
  (j:W.heap=(w.alloc (.cells (r.map (Value.int .i64)++rest).toArray t)).heap)(f:W.os=w.os)(h:W.tape=w.tape)(g:W.output=w.output)(d:w.drawn<=W.drawn):
  Ca fr ro (σ++[AC w.heap.size]) [.dead,B,.row t 1 (r.map λx=>[A.int .i64 x])] W/\Qm fr ro w ro W:=by
 have n:=s.kill 0;obtain⟨k,m⟩:Ca fr ro (σ++[AC w.heap.size]) ([.dead,B]++[.row t 1 (r.map λx=>[A.int .i64 x])]) (w.alloc (.cells (r.map (Value.int .i64)++rest).toArray t))/\Qm fr ro w ro (w.alloc (.cells (r.map (Value.int .i64)++rest).toArray t)):=
  ⟨Ca.allocRow n (li r) (kE r) (r7 r),Qm.alloc _ s.roLt s.frLt⟩
 exact⟨k.heap j,m.trans (Qm.heap j f h g d)⟩
theorem oV{fr ro:Nat->Prop}{σ:Ch}{b:Nat}{B:CW}{r:AA Int}{d rest:AA AL}(s:Ca fr ro σ [.row t 1 (l.map λx=>[A.int .i64 x]),B] w)(f:σ[0]?=AC (AC b))
  (k:w.heap[b]?=AC (.cells d.toArray t (0,0)))(m:(r.map (Value.int .i64)++rest).length=d.length):
  Ca fr ro (σ++[AC b]) [.dead,B,.row t 1 (r.map λx=>[A.int .i64 x])] {w with heap:=w.heap.setIfInBounds b (.cells (r.map (Value.int .i64)++rest).toArray t (0,0))}/\
   Qm fr ro w ro {w with heap:=w.heap.setIfInBounds b (.cells (r.map (Value.int .i64)++rest).toArray t (0,0))}:=by
 obtain⟨j,g⟩:=s.set (x':=.row t 1 (r.map λx=>[A.int .i64 x])) f rfl rfl
  (λy h=>Jw k m y h) (λ_ hex=>⟨_,hex,Je (li r) (kE r) (r7 r)⟩)
 exact⟨j.moved rfl f,g⟩
theorem qd{a b:Array AL}(h:a.toList=b.toList):(w.drew.alloc (.cells a t)).heap=(w.alloc (.cells b t)).heap:=by
 rw[Xu.1 h];rfl
theorem Jg(b:Nat):∀(vs:AA AL) (o:Nat) (w:AJ),(w.setCells b o vs).os=w.os/\(w.setCells b o vs).tape=w.tape/\(w.setCells b o vs).output=w.output/\(w.setCells b o vs).drawn=w.drawn
 |[],_,_=>⟨rfl,rfl,rfl,rfl⟩
 |v::vs,o,w=>Jg b vs (o+1) (w.setCell ⟨b,o,AF⟩ v)
theorem pw{h:Array Obj}{a b:Obj}:(h.push a).setIfInBounds h.size b=h.push b:=by
 apply Array.ext_getElem?;intro i;rw[Vf];by_cases q:h.size=i
 .subst q;simp
 .rw[Vs q,Array.getElem?_push,Array.getElem?_push,Vs (λe=>q e.symm),Vs (λe=>q e.symm)]
theorem _j{n:Nat}:(Builtin.zeroCells (Value.int .i64 0).cells n).toList.length=n:=by simp[Builtin.zeroCells,Value.cells]
theorem QlZ{c j:Nat}{m:AA Int}(k:j<=l.length):
  (((((w.alloc (.cells (((l.map (Value.int .i64)).take j).toArray++Builtin.zeroCells (Value.int .i64 0).cells (l.length+m.length-j)++Builtin.zeroCells (Value.int .i64 0).cells c) t)).drew.setCells w.heap.size j (m.map (Value.int .i64))).drew).setCells w.heap.size (j+m.length) ((l.map (Value.int .i64)).drop j)).heap)=
   (w.alloc (.cells ((l.take j++m++l.drop j).map (Value.int .i64)++(Builtin.zeroCells (Value.int .i64 0).cells c).toList).toArray t)).heap:=by
 have g:=_j (n:=l.length+m.length-j);generalize(Builtin.zeroCells (Value.int .i64 0).cells (l.length+m.length-j))=Z1 at*;generalize(Builtin.zeroCells (Value.int .i64 0).cells c)=Z2 at*;rw[show(((l.map (Value.int .i64)).take j).toArray++Z1++Z2)=((l.map (Value.int .i64)).take j++Z1.toList.take m.length++(Z1.toList.drop m.length++Z2.toList)).toArray from by
  apply Xu.1;simp[Array.toList_append,Vj];rw[<- Vj (List.take m.length _),Xy]]
 have h:((l.map (Value.int .i64)).take j).length=j:=by simp;omega
 have f:=Jy w.heap.size t (m.map (Value.int .i64)) ((l.map (Value.int .i64)).take j) (Z1.toList.take m.length) (Z1.toList.drop m.length++Z2.toList) (w.alloc (.cells ((l.map (Value.int .i64)).take j++Z1.toList.take m.length++(Z1.toList.drop m.length++Z2.toList)).toArray t)).drew (by simp at g⊢;omega) (Yw _ _);rw[h]at f;have d:=Jy w.heap.size t ((l.map (Value.int .i64)).drop j) ((l.map (Value.int .i64)).take j++m.map (Value.int .i64)) (Z1.toList.drop m.length) Z2.toList
  {(w.alloc (.cells ((l.map (Value.int .i64)).take j++Z1.toList.take m.length++(Z1.toList.drop m.length++Z2.toList)).toArray t)).drew with heap:=(w.alloc (.cells ((l.map (Value.int .i64)).take j++Z1.toList.take m.length++(Z1.toList.drop m.length++Z2.toList)).toArray t)).drew.heap.setIfInBounds w.heap.size (.cells ((l.map (Value.int .i64)).take j++m.map (Value.int .i64)++(Z1.toList.drop m.length++Z2.toList)).toArray t (0,0))}.drew (by simp at g⊢;omega) (by
   show((w.heap.push _).setIfInBounds w.heap.size _)[w.heap.size]?=_;simp)
 rw[show((l.map (Value.int .i64)).take j++m.map (Value.int .i64)).length=j+m.length from by simp;omega]at d;rw[f,d];show((w.heap.push _).setIfInBounds w.heap.size _).setIfInBounds w.heap.size _=w.heap.push _;rw[pw,pw];simp[Xf,List.map_take,List.map_drop]
theorem QmO{P:AK}{ρ:Ren}(L:Lays2.n21 P ρ){t2:Nat}{m r:AA Int}{i:Int}(h:Wv l i m=AC r):
  C P (ρ.f 21) [.osl 0 0 l.length 1,.int .i64 i,.osl 1 0 m.length 1] [.row (ρ.t 3) 1 (l.map λx=>[A.int .i64 x]),.row t2 1 (m.map λx=>[A.int .i64 x])]
   (λa H=>a=.osl 2 0 r.length 1/\H=[.dead,.row t2 1 (m.map λx=>[A.int .i64 x]),.row (ρ.t 3) 1 (r.map λx=>[A.int .i64 x])]):=by
 obtain⟨j,rfl,hj,hm,ab,rfl⟩:=p? h;intro fr X σ vals w s hv;obtain⟨v0,r0,rfl,aj,v1,r1,rfl,ak,v2,r2,rfl,al,hr⟩:=hv;cases(show r2=[]from hr);cases(show v1=.int .i64 (j:Int)from ak);have am:YE=4294967296:=rfl;have aa:σ.length=2:=s.len;rcases al with⟨h0,_⟩|⟨O,vp,V,vt,vm,g1,rfl,g2,g3,g4,g5⟩
 .omega
 obtain rfl:vp=0:=by have:=g2 (by omega);omega
 obtain⟨aq,f1,f2⟩:=s.blk 1 _ _ g1 rfl;obtain⟨ai,rfl⟩:=kP f2;have G:∀(k:Nat) v,(m.map (Value.int .i64))[k]?=AC v->w.cell? ⟨O,0+k,AF⟩=AC v:=by
  intro k v E;unfold World.cell?;simp only[f1,Option.isSome_none,Xi,if_false,Xv];rw[dR,XM (by rw[X2];have:=(XL.1 E).1;rw[X2]at this;exact this)];exact E
 have B:(l.take j++m++l.drop j).length=l.length+m.length:=by simp;omega
 have y:∀(c0:Nat) (W:AJ) (zs:AA AL) (e:AL),zs.length=grownCap w (l.length+m.length) c0 (ρ.t 3)-(l.length+m.length)->W.heap=(w.alloc (.cells ((l.take j++m++l.drop j).map (Value.int .i64)++zs).toArray (ρ.t 3))).heap->W.os=w.os->W.tape=w.tape->W.output=w.output->w.drawn<=W.drawn->
   e=.slice (AC ⟨w.heap.size,0,AF⟩) (l.length+m.length) (grownCap w (l.length+m.length) c0 (ρ.t 3))->
   ∃v r H' ro' τ,Ending.returned e=.returned v/\(r=.osl 2 0 (l.take j++m++l.drop j).length 1/\H'=[.dead,.row t2 1 (m.map λx=>[A.int .i64 x]),.row (ρ.t 3) 1 ((l.take j++m++l.drop j).map λx=>[A.int .i64 x])])/\Ca fr ro' (σ++τ) H' W/\VR ro' (σ++τ) W r v/\Qm fr X w ro' W:=by
  intro c0 W zs e hz hh hos htp hou hdr he;obtain⟨s1,e1⟩:=za s hh hos htp hou hdr;have af:=grownCap_ge w (l.length+m.length) c0 (ρ.t 3);refine⟨_,_,_,X,[AC w.heap.size],rfl,⟨rfl,rfl⟩,s1,?_,e1⟩;rw[he];refine .inr ⟨w.heap.size,0,_,ρ.t 3,((l.take j++m++l.drop j).map (Value.int .i64)++zs).length,?_,by rw[B],λ_=>by simp,⟨by rw[B];exact af,grownCap_le_maxLen _ _ _ _ (by unfold maxLen;omega)⟩,?_,?_⟩
  .rw[XN (by omega),aa];rfl
  .unfold World.shape?;rw[hh,Yw];simp
  .rw[X3,X2,B,hz];omega
 have fin:∀{W:AJ} {b n t' T:Nat} (z:Nat),l.length+m.length<=n->n<=9223372036854775807->W.shape? b=AC (t',T)->(0+n)*1<=T->z=l.length+m.length->VR X (σ++[AC b]) W (.osl 2 0 (l.take j++m++l.drop j).length 1) (.slice (AC ⟨b,0,AF⟩) z n):=by
  intro W b n t' T z h1 h2 h3 h4 h5;refine .inr ⟨b,0,n,t',T,?_,by rw[B,h5],λ_=>by simp,⟨by rw[B];exact h1,h2⟩,h3,h4⟩;rw[XN (by omega),aa];rfl
 rcases aj with⟨h0,rfl⟩|⟨b,p,n,t',T,q1,rfl,q2,q3,q4,q5⟩
 .have ae:l=[]:=VJ.1 h0;subst ae;obtain rfl:j=0:=by simpa using hj
  have J:=Any2.slices_Insert_int_end_grow L AF 0 0 O 0 m.length V [] (m.map (Value.int .i64)) w hm (XT _) (by omega) (by simp at ab;omega) rfl (by simp) (λ_=>rfl) (λa ha=>by cases ha) G (SZ m);refine J.mono ?_;rintro e W ⟨rfl,rfl⟩;refine y 0 _ (Builtin.zeroCells (Value.int .i64 0).cells (grownCap w (0+m.length) 0 (ρ.t 3)-(0+m.length))).toList _ (by simp[Builtin.zeroCells,Value.cells]) ?_ rfl rfl rfl (Nat.le_succ _) (by simp);exact qd (by simp)
 .obtain⟨q3,M⟩:=q3;obtain⟨an,y1,y2⟩:=s.blk 0 _ _ q1 rfl;obtain⟨d,rfl⟩:=kP y2;have ah:O≠b:=λe=>by
   have:=s.inj 1 0 O _ _ g1 (e▸q1) rfl rfl rfl rfl;omega
  have ao:n<=l.length+d.length:=by
   have:w.shape? b=AC (ρ.t 3,(l.map (Value.int .i64)++d).length):=by unfold World.shape?;rw[y1];simp
   rw[this]at q4;cases q4;simp at q5;omega
  have hp:0<n->p=0:=λq=>by have:=q2 q;omega
  have F:∀k v,(l.map (Value.int .i64)++d)[k]?=AC v->w.cell? ⟨b,0+k,AF⟩=AC v:=by
   intro k v E;unfold World.cell?;simp only[y1,Option.isSome_none,Xi,if_false,Xv];rw[dR];exact E
  have R:∀(k:Nat) v,(l.map (Value.int .i64))[k]?=AC v->w.cell? ⟨b,p+k,AF⟩=AC v:=by
   intro k v E;have N:=(XL.1 E).1;rw[X2]at N;obtain rfl:=hp (by omega);exact F k v (by rw[XM (by rw[X2];exact N)];exact E)
  have ac:∀k,w.frozen? ⟨b,k,AF⟩=false:=by
   intro k;unfold World.frozen?;simp only[y1];simp
  have Y:∀k,w.frozen? ⟨O,k,AF⟩=false:=by
   intro k;unfold World.frozen?;simp only[f1];simp
  by_cases g:l.length+m.length<=n
  .obtain rfl:=hp (by omega);have ad:∀k,k<l.length+m.length->(w.cell? ⟨b,0+k,AF⟩).isSome=true:=by
    intro k E;have N:k<(l.map (Value.int .i64)++d).length:=by simp;omega
    rw[F k _ (XK N)];rfl
   by_cases Q:j=l.length
   .subst Q;have J:=Any2.slices_Insert_int_end_room L b 0 l.length n O 0 m.length V (m.map (Value.int .i64)) w hm g M (by simp) (λk E=>by simpa[Nat.add_assoc]using ad (l.length+k) (by omega)) (λk _=>ac _) G (SZ m);refine J.mono ?_;rintro e W ⟨rfl,rfl⟩;have e1:w.setCells b (0+l.length) (m.map (Value.int .i64))={w with heap:=w.heap.setIfInBounds b (.cells ((l.take l.length++m++l.drop l.length).map (Value.int .i64)++d.drop m.length).toArray (ρ.t 3) (0,0))}:=by
     have:=Jy b (ρ.t 3) (m.map (Value.int .i64)) (l.map (Value.int .i64)) (d.take m.length) (d.drop m.length) w (by simp;omega) (by rw[Vj,Xy];exact y1);rw[X2]at this;rw[Xv,this,Va,Xr];simp
    rw[e1];obtain⟨s2,e2⟩:=oV (r:=l.take l.length++m++l.drop l.length) (rest:=d.drop m.length) s q1 y1 (by simp;omega);exact⟨_,_,_,X,[AC b],rfl,⟨rfl,rfl⟩,s2,fin _ g M (e2.shape _ _ q4) q5 rfl,e2⟩
   .have J:=Any2.slices_Insert_int_shift L b 0 l.length n j O 0 m.length V (l.map (Value.int .i64)) (m.map (Value.int .i64)) w (by omega) hm g M ah (by simp) (by simp) R ad (λk _=>ac _) G (SZ l) (SZ m) vt t' vm T g4 q4 (by omega) (Y _) (Y _);refine J.mono ?_;rintro e W ⟨rfl,rfl⟩;have e1:(w.drew.setCells b (0+(j+m.length)) ((l.map (Value.int .i64)).drop j)).setCells b (0+j) (m.map (Value.int .i64))={w.drew with heap:=w.drew.heap.setIfInBounds b (.cells ((l.take j++m++l.drop j).map (Value.int .i64)++d.drop m.length).toArray (ρ.t 3) (0,0))}:=by
     have ag:b<w.drew.heap.size:=(Vd.1 y1).1;have k1:=Jy b (ρ.t 3) ((l.map (Value.int .i64)).drop j) ((l.map (Value.int .i64)++d).take (j+m.length)) (((l.map (Value.int .i64)++d).drop (j+m.length)).take (l.length-j)) (((l.map (Value.int .i64)++d).drop (j+m.length)).drop (l.length-j)) w.drew (by simp;omega) (by rw[Vj,Xy,Xy];exact y1);rw[show((l.map (Value.int .i64)++d).take (j+m.length)).length=0+(j+m.length)from by simp;omega]at k1;have k2:=Jy b (ρ.t 3) (m.map (Value.int .i64)) ((l.map (Value.int .i64)++d).take j) (((l.map (Value.int .i64)++d).drop j).take m.length) ((l.map (Value.int .i64)).drop j++(((l.map (Value.int .i64)++d).drop (j+m.length)).drop (l.length-j))) {w.drew with heap:=w.drew.heap.setIfInBounds b (.cells ((l.map (Value.int .i64)++d).take (j+m.length)++(l.map (Value.int .i64)).drop j++((l.map (Value.int .i64)++d).drop (j+m.length)).drop (l.length-j)).toArray (ρ.t 3) (0,0))} (by simp;omega) (by
      show(w.drew.heap.setIfInBounds b _)[b]?=_;rw[Vf,Vt rfl,Vt ag,List.take_add];simp only[Vj])
     rw[show((l.map (Value.int .i64)++d).take j).length=0+j from by simp;omega]at k2;rw[k1,k2];simp only[Array.setIfInBounds_setIfInBounds];rw[List.drop_drop,show j+m.length+(l.length-j)=(l.map (Value.int .i64)).length+m.length from by simp;omega,Vb,X8 (by simpa using hj)];simp only[Xf,List.map_take,List.map_drop,Vj]
    rw[e1];obtain⟨s2,e2⟩:=oV (w:=w.drew) (r:=l.take j++m++l.drop j) (rest:=d.drop m.length) (s.heap rfl) q1 y1 (by simp;omega);exact⟨_,_,_,X,[AC b],rfl,⟨rfl,rfl⟩,s2,fin _ g M (e2.shape _ _ q4) q5 rfl,(Qm.heap (w:=w) (w':=w.drew) rfl rfl rfl rfl (Nat.le_succ _)).trans e2⟩
  .by_cases Q:j=l.length
   .subst Q;have J:=Any2.slices_Insert_int_end_grow L (AC ⟨b,p,AF⟩) l.length n O 0 m.length V (l.map (Value.int .i64)) (m.map (Value.int .i64)) w hm q3 (by omega) (by omega) (by simp) (by simp) (λh=>by cases h) (λa ha k v E=>by cases ha;rw[Se];exact R k v E) G (SZ m);refine J.mono ?_;rintro e W ⟨rfl,rfl⟩;exact y n _ (Builtin.zeroCells (Value.int .i64 0).cells (grownCap w (l.length+m.length) n (ρ.t 3)-(l.length+m.length))).toList _ (by simp[Builtin.zeroCells,Value.cells]) (qd (by simp)) rfl rfl rfl (Nat.le_succ _) rfl
   .have J:=Any2.slices_Insert_int_grow L b p l.length n j O 0 m.length V (l.map (Value.int .i64)) (m.map (Value.int .i64)) w (by omega) hm q3 (by omega) (by omega) (by simp) (by simp) R G (SZ l) (SZ m);refine J.mono ?_;rintro e W ⟨rfl,rfl⟩;refine y n _ (Builtin.zeroCells (Value.int .i64 0).cells (grownCap w (l.length+m.length) n (ρ.t 3)-(l.length+m.length))).toList _ (by simp[Builtin.zeroCells,Value.cells]) ?_ (by rw[(Jg _ _ _ _).1];exact(Jg _ _ _ _).1) (by rw[(Jg _ _ _ _).2.1];exact(Jg _ _ _ _).2.1) (by rw[(Jg _ _ _ _).2.2.1];exact(Jg _ _ _ _).2.2.1) (by
     rw[(Jg _ _ _ _).2.2.2];show _<=(World.setCells _ _ _ _).drawn+1;rw[(Jg _ _ _ _).2.2.2];exact Nat.le_add_right_of_le (Nat.le_add_right _ _)) rfl
    exact QlZ (by simpa using hj)
end Go.Sw
namespace Go.Sw
open Option renaming some→AC,none→AF
open Bool renaming false→AD,true→AE
open Decidable renaming decide→AG
open Go renaming World→AJ,Program→AK,Value→AL,Oper→AM
variable {P:AK}{T:Nat}{w:AJ}
theorem py{e k:Nat}(E1:∀w,(underlying T).run P w=.ok (.slice e) w)(E2:∀w,(sizeOf e).run P w=.ok k w){ad:AB Addr}{n cap:Nat}{z:Int}(d:n<=cap)(f:0<=z)(h:z<=n):
  (Instr.sliceAt T (.slice ad n cap) AF (AC (.int .i64 z)) (AC (.int .i64 z))).run P w=.ok (.slice (if z.toNat=0 then ad else ad.map (·.add (0*k))) (z.toNat-0) (z.toNat-0)) w:=by
 have g:(Instr.sliceBounds AE n cap AF (AC (.int .i64 z)) (AC (.int .i64 z))).run P w=.ok (0,z.toNat,z.toNat) w:=by
  simp[Instr.sliceBounds,Vn,Vo,Result.andThen,YU f (show z<=cap by omega),YU f (show z<=z.toNat by omega)]
 simp[Instr.sliceAt,Vn,E1,Result.andThen,Instr.slice,g,E2,Vo]
variable {H:Qd}{env:Env}{et:Nat}
theorem dD{α:Type}{o:AM}{k b:Nat}{x hi z:Operand}{l r:AA α}{c:Int}(h:Dd l 0 c=AC r)(E1:∀w,(underlying T).run P w=.ok (.slice et) w)(E2:∀w,(sizeOf et).run P w=.ok k w)
  (j:o.op=.slice T x AF (AC hi) (AC z):=by rfl)(hx:CQ env x=.osl b 0 l.length k:=by rfl)(h1:CQ env hi=.int .i64 c:=by rfl)(h2:CQ env z=.int .i64 c:=by rfl):
  CU P o env H (.osl b (0+Int.toNat 0) (c.toNat-Int.toNat 0) k):=by
 intro V Q σ N a w r;obtain⟨R,y,G,_⟩:=SV h;have t:=Qq r x;rw[hx]at t;rcases t with⟨n,f⟩|⟨g,p,F,M,m,n,f,B,⟨J,O⟩,L,E⟩
 .have d:=py (w:=w) E1 E2 (ad:=AF) (XT 0) y (by omega);refine⟨_,by simp[execOp,j,f,Vn,Xk,Xj,QV r h1,QV r h2,d,Vo];rfl,?_⟩;left;have:c.toNat=0:=by omega
  simp[this]
 .have d:=py (w:=w) E1 E2 (ad:=AC ⟨g,p,AF⟩) J y G;refine⟨_,by simp[execOp,j,f,Vn,Xk,Xj,QV r h1,QV r h2,d,Vo];rfl,?_⟩;right;refine⟨g,p,c.toNat,M,m,n,by simp[Se],λq=>?_,⟨by simp,by omega⟩,L,?_⟩
  .rw[B (by omega)];simp
  .refine XV (XB k ?_) E;omega
theorem TC.label{P:AK}{h0 N l:Nat}{env:Env}{H:Qd}{Q:Qz}(h:Q .normal env H):TC P h0 N (.label l) env H Q:=
 λrd fr ro σ a w r hrd=>wpIn_label ⟨_,env,H,ro,σ,fr,rfl,h,r,Qm.refl _ _ _,rfl,C8.refl _ _ _⟩
theorem Qic{b:Frame}{a:Act}{k:AA Item}{cs:AA Frame}{c:Code}:step P (lone (b.atR a (.code (.scope c)::k)) cs w)=.next (lone (b.atR a (.code c::.inScope c::k)) cs w):=
 step_lone_go (by simp[stepG,stepG.exec,Frame.atR])
theorem Qf9{b:Frame}{a:Act}{k:AA Item}{cs:AA Frame}{c:Code}:step P (lone (b.atR a (.inScope c::k)) cs w)=.next (lone (b.atR a k) cs w):=
 step_lone_go (by simp[stepG,stepG.exec,Frame.atR])
theorem TC.scope{P:AK}{h0 N:Nat}{c:Code}{env:Env}{H:Qd}{Q:Qz}(h:TC P h0 N c env H Q):TC P h0 N (.scope c) env H Q:=by
 intro F G y σ a w r hrd b k cs hro hb f;obtain⟨e,t,q,j,d⟩:=h F G y σ a w r hrd b (.inScope c::k) cs hro hb f;refine⟨e,t,q,j,.of_steps (.one (fenced_calm hb f rfl) Qic) ?_⟩;obtain⟨x,m,H',n,σ',B,z,_⟩:=j;cases e with
 |normal=>exact StepsIn.trans d (.one (fenced_calm hb f rfl) Qf9)
 |exit id=>exact⟨λE g=>d.1 E (by rw[exitTo];exact g;simp),λf g=>d.2 f (by rw[exitTo];exact g;simp)⟩
 |ret=>exact d
 |_=>exact z.elim
variable {off:Nat}
theorem tY{o:AM}{f n:Nat}{x:Operand}{k:AA A}{v:A}{fs:Array Field}{j:Field}(t:Qw P T f off n)(y:∀w,(underlying T).run P w=.ok (.struct fs) w)(g:fs[f]?=AC j)(d:∀w,(isAgg j.type).run P w=.ok AD w)
  (m:o.op=.field T x f:=by rfl)(hx:CQ env x=.agg k:=by rfl)(hv:k[off]?=AC v:=by rfl):CU P o env H v:=
 CU.field t (λq z B h w=>by
  have:=(B w).symm.trans (y w);cases this;rw[g]at h;cases h;exact d w) m hx hv
variable {es:AA (AA A)}{ro':Nat->Prop}{t:Nat}
section
variable {P:AK} {o:AM} {env:Env} {H:Qd} {fr ro:Nat->Prop} {σ:Ch} {w:AJ}
theorem Qo7{i n j:Nat}{v:AL}(s:Ca fr ro σ H w)(hσ:∀c,σ[i]?=AC (AC c)->ro' c)(x:∀c,ro c->ro' c)(hH:H[i]?=AC (.row t 1 es))(M:j*n+n<=es.length)
  (h:VR ro σ w (.osl i (j*n) n 1) v):VR ro' [] w (.rsl 1 ((es.drop (j*n)).take n)) v:=by
 have f:((es.drop (j*n)).take n).length=n:=by simp;omega
 rcases h with⟨rfl,rfl⟩|⟨c,p,g,L,m,k,rfl,z,⟨y,_⟩,J,G⟩
 .exact⟨AF,0,by rw[f],by rw[f];exact XT _,.inl (VJ.1 f)⟩
 .refine⟨_,g,by rw[f],by rw[f];exact y,?_⟩;by_cases F:n=0
  .exact .inl (VJ.1 (f.trans F))
  .obtain rfl:=z (by omega);obtain⟨l,B,E⟩:=s.blk i _ _ k hH;have q:=(YR (pre:=[]) (by simpa using B) E).keep (ro':=ro') (σ':=[]) (w':=w) ⟨x,λ_ _=>rfl,λ_ _ q=>q,λ_ _ q=>q⟩ rfl;refine .inr ⟨c,_,rfl,hσ c k,?_⟩;have d:=(q.drop (j*n)).take n;simpa using d
end
def nS(P:AK)(i:Nat):String:=match P.funcs[i]? with|some f=>f.name|none=>""
theorem gH{f:FuncId}{B:Func}(d:(nS P f=="runtime.NumGoroutine")=AD)(h:P.funcs[f]?=AC {B with name:=nS P f}):Go.Proofs.Bears P f B:=⟨_,d,h⟩
def tu(P:AK)(t:Nat):Nat:=match P.underlying t with|some (.slice e)=>e|_=>0
def m9:A->AL
 |.int k n=>.int k n
 |.bool b=>.bool b
 |.str _=>.string ⟨#[]⟩
 |.rsl _ _=>.slice AF 0 0
 |.nils=>.slice AF 0 0
 |.nilp=>.pointer AF
 |.nilm=>.map AF
 |.nilif=>.nilIface
 |_=>.nilFunc
def zA:A->AL
 |.agg r=>.agg (r.map m9).toArray
 |a=>m9 a
def kL(P:AK)(F:AA (Nat×AA (Nat×Nat)))(T:Fa)(Z:NH)(w:AJ):=
 (F.map λe=>(underlying e.1).run P w,F.map λe=>(P.fieldsOf e.1).toList.map λf=>(f.offset,(sizeOf f.type).run P w),
  T.ty.agg.map λe=>((isAgg e.1).run P w,(sizeOf e.1).run P w),T.ty.zer.map λe=>(zeroValue e.1).run P w,
  T.al.map λe=>(zeroValue e.1).run P w,T.sl.map λt=>(underlying t).run P w,Z.sl.map λe=>((underlying e.1).run P w,(sizeOf e.2.1).run P w))
def kR(P:AK)(F:AA (Nat×AA (Nat×Nat)))(T:Fa)(Z:NH)(w:AJ):=
 (F.map λe=>Result.ok (TypeDesc.struct (P.fieldsOf e.1)) w,F.map λe=>e.2.map λx=>(x.1,Result.ok x.2 w),
  T.ty.agg.map λe=>(Result.ok e.2.1 w,Result.ok e.2.2 w),T.ty.zer.map λe=>Result.ok (zA (.agg e.2.1)) w,
  T.al.map λe=>Result.ok (zA e.2) w,T.sl.map λt=>Result.ok (TypeDesc.slice (tu P t)) w,Z.sl.map λe=>(Result.ok (TypeDesc.slice e.2.1) w,Result.ok e.2.2 w))
def kT(F:AA (Nat×AA (Nat×Nat)))(T:Fa):Bool:=
 b_ F T.ty.fld&&T.ty.zer.all (λe=>fH (.agg e.2.1) (zA (.agg e.2.1))&&F.contains (e.1,e.2.2))&&T.al.all λe=>fH e.2 (zA e.2)&&Yi e.2&&(Yf e.2).all Yr
variable {α:Type}
variable {L:AA α}
theorem RE{β:Type}{f g:AJ->α->β}(h:∀w,L.map (f w)=L.map (g w)){e:α}(he:e∈L)(w:AJ):f w e=g w e:=List.map_inj_left.1 (h w) e he
theorem PL.ofK{P:AK}:∀{fs:AA Field} {pl:AA (Nat×Nat)},(∀w:AJ,fs.map (λf=>(f.offset,(sizeOf f.type).run P w))=pl.map λx=>(x.1,Result.ok x.2 w))->PL P fs pl
 |[],[],_=>.nil
 |[],_::_,h=>by cases h default
 |_::_,[],h=>by cases h default
 |f::fs,(a,n)::pl,h=>by
  have h1:=λw=>List.cons.inj (h w);have e:=λw=>Prod.mk.inj (h1 w).1;obtain rfl:f.offset=a:=(e default).1;exact .cons (λw=>(e w).2) (PL.ofK λw=>(h1 w).2)
section
variable {P:AK} {F:AA (Nat×AA (Nat×Nat))} {T:Fa} {Z:NH}
theorem _x(h:kL P F T Z=kR P F T Z):∀e∈F,SQ P e.1 e.2:=λe he=>
 ⟨_,λw=>by simpa using RE (f:=λw e=>(underlying e.1).run P w) (λw=>(Prod.mk.inj (congrFun h w)).1) he w,PL.ofK λw=>RE (f:=λw e=>(P.fieldsOf e.1).toList.map λf=>(f.offset,(sizeOf f.type).run P w)) (λw=>(Prod.mk.inj (Prod.mk.inj (congrFun h w)).2).1) he w⟩
theorem IV.ofK(h:kL P F T Z=kR P F T Z)(k:kT F T=AE):IV P T:=by
 have g:=_x h;simp only[kT,XW,Xs]at k;refine⟨⟨zW g k.1.1,λe d=>?_,λe d=>?_⟩,λe d=>?_,λe d=>?_⟩
 .have:=RE (f:=λw e=>((isAgg e.1).run P w,(sizeOf e.1).run P w)) (λw=>(Prod.mk.inj (Prod.mk.inj (Prod.mk.inj (congrFun h w)).2).2).1) d;exact⟨λw=>(Prod.mk.inj (this w)).1,λw=>(Prod.mk.inj (this w)).2⟩
 .have:=RE (f:=λw e=>(zeroValue e.1).run P w) (λw=>(Prod.mk.inj (Prod.mk.inj (Prod.mk.inj (Prod.mk.inj (congrFun h w)).2).2).2).1) d;have q:=k.1.2 e d;exact⟨⟨_,this,Fh q.1⟩,g _ (List.contains_iff_mem.1 q.2)⟩
 .have:=RE (f:=λw e=>(zeroValue e.1).run P w) (λw=>(Prod.mk.inj (Prod.mk.inj (Prod.mk.inj (Prod.mk.inj (Prod.mk.inj (congrFun h w)).2).2).2).2).1) d;have q:=k.2 e d;exact⟨⟨_,this,Fh q.1.1⟩,q.1.2,Xs.2 q.2⟩
 .exact⟨_,RE (f:=λw t=>(underlying t).run P w) (λw=>(Prod.mk.inj (Prod.mk.inj (Prod.mk.inj (Prod.mk.inj (Prod.mk.inj (Prod.mk.inj (congrFun h w)).2).2).2).2).2).1) d⟩
theorem Kx.ofK(h:kL P F T Z=kR P F T Z)(k:∀f∈Z.fn,∀(a:Array AL) (w:AJ),(callFunc f a).run P w=.ok (.enter f a) w):Kx P Z:=⟨λe he=>by
 have:=RE (f:=λw e=>((underlying e.1).run P w,(sizeOf e.2.1).run P w)) (λw=>(Prod.mk.inj (Prod.mk.inj (Prod.mk.inj (Prod.mk.inj (Prod.mk.inj (Prod.mk.inj (congrFun h w)).2).2).2).2).2).2) he;exact⟨λw=>(Prod.mk.inj (this w)).1,λw=>(Prod.mk.inj (this w)).2⟩,k⟩
theorem zy{L:AA Nat}(h:(λ(a:Array AL) (w:AJ)=>L.map λf=>(callFunc f a).run P w)=λa w=>L.map λf=>.ok (.enter f a) w):∀f∈L,∀(a:Array AL) (w:AJ),(callFunc f a).run P w=.ok (.enter f a) w:=
 λf hf a=>RE (f:=λw f=>(callFunc f a).run P w) (λw=>congrFun (congrFun h a) w) hf
end
section
variable {P:AK}
theorem Cs.c{f:Field}{fs:AA Field}{h d k:Nat}{j g:AA AL->Prop}(q:∀h,Ii P f.type (h+1) 1 AD j)(n:Cs P fs (h+1) (d+1) k g)(m:Nat.beq f.offset d=true:=by rfl)(hn:f.name≠"_":=by decide):
  Cs P (f::fs) (h+1) d (1+k) (λl=>∃l1 l2,l=l1++l2/\j l1/\g l2):=Cs.cons m hn (q h) (λ_=>rfl) n
theorem RF.c1{n:Nat}{T:Type}{e:T->AA A}{wf:T->Prop}{f:Field}{fs:AA Field}{L:Nat}{T2:Type}{g:T2->AA A}{d:T2->Prop}(h:RB P n f.type T e wf)(r:RF P n fs (off+1) L T2 g d)(j:f.offset=off:=by rfl)(hk:P.cellsOf f.type=1:=by kernel_rfl):
  RF P n (f::fs) off L (T×T2) (λp=>e p.1++g p.2) (λp=>wf p.1/\d p.2):=RF.cons j hk h r
end
class Kp {β:Type} (P:AK) (F:AB β) (f:outParam FuncId) (args:outParam (AA A)) (H:outParam Qd) (w:outParam (β->A)) (H1:outParam (β->Qd)):Prop where
 c:∀r,F=AC r->C P f args H (RQ w H1 r)
variable {N:Nat}{args:AA A}{fn:Func}
theorem Kp.b{β:Type}{F:AB β}{f:FuncId}{c:Code}{w:β->A}{H1:β->Qd}(hf:P.funcs[f]?=AC fn)(hb:fn.body=AC c)(hN:fn.ntmps=N)(hA:Nat.ble args.length N=AE)
  (h:∀r,F=AC r->TC P H.length N c (KJ 0 args) H (Ja P H.length fn (RQ w H1 r))):Kp P F f args H w H1:=⟨λr e=>gj hf hb hN hA (h r e)⟩
theorem sr{P:AK}{fn:Func}{tmps:Array AL}{R:Ending->AJ->Prop}{fr ro:Nat->Prop}{σ:Ch}{H:Qd}{tl:AA Deferred}:
  ∀(ds:AA Deferred) (w:AJ),ds.Nodup->(∀d∈ds,∃D,d={target:=.collected D,args:= #[]}/\ ¬ro D/\ ¬fr D/\(∀(i:Nat) (x:CW),σ[i]?=AC (AC D)->H[i]?=AC x->x.live=AE->False)/\(∀(i d:Nat) (x:CW),σ[i]?=AC (AC d)->H[i]?=AC x->Di w x d D->False)/\w.heap[D]?=AC (.deferred (AC [])))->
  Ca fr ro σ H w->(∀w',Ca fr ro σ H w'->Qm fr ro w ro w'->LeavesInM Fence.wide 0 P fn tmps R tl .returning w')->LeavesInM Fence.wide 0 P fn tmps R (ds++tl) .returning w
 |[],w,_,_,s,hk=>hk w s (Qm.refl _ _ _)
 |d::ds,w,hn,hd,s,hk=>by
  obtain⟨D,rfl,h1,h2,h3,h5,h4⟩:=hd d (by simp);obtain⟨n1,n2⟩:=List.nodup_cons.1 hn;obtain⟨s',ev⟩:=s.turn (obj:=.deferred AF) h1 h2 h3 h5 (λy q=>by grind[World.shape?]);refine⟨(by simp),.inl ⟨D,_,rfl,run_takeDeferred h4,?_⟩⟩;refine sr ds _ n2 (λd' q=>?_) s' (λw' q1 q2=>hk w' q1 (ev.trans q2));obtain⟨D',rfl,g1,g2,g3,g5,g4⟩:=hd d' (by simp[q]);refine⟨D',rfl,g1,g2,g3,λi d x z1 z2 z3=>g5 i d x z1 z2 (s.hidKeep z1 z2 (λz=>World.putObj_heap_other (by grind)) (λb q=>World.putObj_heap_other (λe:b=D=>h1 (e▸q))) z3),(World.putObj_heap_other (λe=>?_)).trans g4⟩
  grind
def KF(h:Nat):A->Bool
 |.ptr i _=>Nat.blt i h
 |.int _ _=>AE
 |.bool _=>AE
 |.rp _=>AE
 |_=>AD
theorem KF.take{ro:Nat->Prop}{σ:Ch}{w:AJ}{h:Nat}{a:A}{v:AL}(d:KF h a=AE)(q:VR ro σ w a v):VR ro (σ.take h) w a v:=by
 cases a with
 |ptr i o=>
  simp only[VR]at q⊢;obtain⟨b,f,g⟩:=q;have:i<h:=by simpa[KF]using d
  exact⟨b,by rw[List.getElem?_take_of_lt this];exact f,g⟩
 |int k n=>exact q
 |bool b=>exact q
 |rp j=>exact q
 |_=>cases d
theorem belL.take{ro:Nat->Prop}{σ:Ch}{w:AJ}{h:Nat}:∀{la:AA A} {l:AA AL},la.all (KF h)=AE->LR ro σ w la l->LR ro (σ.take h) w la l
 |[],l,_,q=>q
 |a::r,l,hb,q=>by
  simp only[LR]at q⊢;simp only[List.all_cons,XW]at hb;obtain⟨v,l',h1,h2,h3⟩:=q;exact⟨v,l',h1,KF.take hb.1 h2,belL.take hb.2 h3⟩
theorem Qm.extTake{fr ro:Nat->Prop}{w':AJ}(h:Qm fr ro w ro' w'){σ σ':Ch}{n:Nat}(e:σ'.take n=σ.take n):DL ro (σ.take n) w ro' σ' w':=
 ⟨(h.ext σ []).sub,(h.ext σ []).keep,(h.ext σ []).shape,λi b q=>by
  rw[<- e]at q;by_cases hi:i<n
  .rw[List.getElem?_take_of_lt hi]at q;exact q
  .rw[XO (by simp;omega)]at q;cases q⟩
def Ww(h0:Nat)(fr ro:Nat->Prop)(σ:Ch)(w:AJ)(N:Nat)(ds:AA Deferred)(Q0:Qz)(QD:Nat->FuncId->AA A->Qz):Exit->Act->AJ->Prop:=
 λe a' w'=>Hj h0 fr ro σ w N ds Q0 e a' w'\/ ∃x env' H' ro' σ' fr' h1 f caps capv,RV e x/\QD h1 f caps x env' H'/\DH fr' ro' σ' H' env' N a' w'/\Qm fr ro w ro' w'/\σ'.take h0=σ.take h0/\h0<=h1/\
  LR ro' (σ'.take h1) w' caps capv/\C8 fr w ({target:=.fn (.func f) capv.toArray,args:= #[]}::ds) fr' a'.defers
def IR(P:AK)(h0 N:Nat)(c:Code)(env:Env)(H:Qd)(Q0:Qz)(QD:Nat->FuncId->AA A->Qz):Prop:=
 ∀fr ro σ a w,DH fr ro σ H env N a w->(∀d∈a.defers,¬fw d)->c.wpIn (WF AF) 0 P (Ww h0 fr ro σ w N a.defers Q0 QD) a w
def SG(P:AK)(h0 N:Nat)(c:Code)(Q0:Qz)(QD:Nat->FuncId->AA A->Qz):Qz
 |.normal,env,H=>IR P h0 N c env H Q0 QD
 |.exit id,env,H=>Q0 (.exit id) env H
 |.ret,env,H=>Q0 .ret env H
section
variable {P:AK} {h0 N:Nat} {env env':Env} {H H':Qd} {Q0:Qz} {QD:Nat->FuncId->AA A->Qz} {c c':Code}
theorem Zi(h:IR P h0 N c env H Q0 QD):SG P h0 N c Q0 QD .normal env H:=h
theorem nB(h:Q0 .ret env H):SG P h0 N c Q0 QD .ret env H:=h
theorem C8.noReal{fr fr':Nat->Prop}{ds ds':AA Deferred}(h:C8 fr w ds fr' ds')(k:∀d∈ds,¬fw d):∀d∈ds',¬fw d:=λd hd=>by
 rcases h.ds d hd with q|⟨D,rfl,_⟩
 .exact k d q
 .rintro⟨fv,cap,e⟩;simp at e
theorem Ww.grow{fr k ro t:Nat->Prop}{σ σ1:Ch}{w F:AJ}{ds j:AA Deferred}{e:Exit}{a':Act}{w':AJ}
  (h:Ww h0 k t σ1 F N j Q0 QD e a' w')(he:Qm fr ro w t F)(E:σ1.take h0=σ.take h0)(hg:C8 fr w ds k j):Ww h0 fr ro σ w N ds Q0 QD e a' w':=by
 rcases h with h|⟨x,n,H',z,σ',B,Q,f,m,g,L,R,M,O,J,P,G,H⟩
 .exact .inl (h.grow he E hg)
 .refine .inr ⟨x,n,H',z,σ',B,Q,f,m,g,L,R,M,he.trans (O.frMono hg.sub),J.trans E,P,G,?_⟩;have y:C8 fr w ({target:=.fn (.func f) g.toArray,args:= #[]}::ds) k ({target:=.fn (.func f) g.toArray,args:= #[]}::j):=by
   refine⟨hg.sub,hg.new,λd q=>?_,λd q=>?_⟩
   .rcases X7.1 q with rfl|q
    .simp
    .exact X6 _ (hg.kd d q)
   .rcases X7.1 q with rfl|q
    .simp
    .exact(hg.ds d q).imp (X6 _) id
  exact y.trans he.size H
theorem IR.seq(h:TC P h0 N c env H (SG P h0 N c' Q0 QD)):IR P h0 N (.seq c c') env H Q0 QD:=by
 intro F E σ a w r hn;refine wpIn_seq (Code.wpIn_mono ?_ (h AF F E σ a w r ZN));rintro e B z ⟨x,d,H',f,σ',g,k,y,n,t,m,j⟩;cases e with
 |normal=>
  obtain rfl:x=.normal:=k;exact Code.wpIn_mono (λe a w q=>q.grow t m j) (y g f σ' B z n (j.noReal hn))
 |exit id=>
  obtain rfl:x=.exit id:=k;exact .inl ⟨_,d,H',f,σ',g,rfl,y,n,t,m,j⟩
 |ret=>
  obtain rfl:x=.ret:=k;exact .inl ⟨_,d,H',f,σ',g,rfl,y,n,t,m,j⟩
 |_=>exact k.elim
theorem IR.le(f:Le h0 env H env' H')(h:IR P h0 N c env' H' Q0 QD):IR P h0 N c env H Q0 QD:=by
 intro g j σ a w r hn;obtain⟨d,σ',k,s,t⟩:=f g j σ N a w r;exact Code.wpIn_mono (λe a w q=>q.grow (Yb s) t (C8.refl _ _ _)) (h g d σ' a w k hn)
theorem IR.defer{j h:AM}{d id f:Nat}{caps:AA A}(hv:CU P j env H (.fn (.func f) [] caps))(Y:h0<=H.length)(W:caps.all (KF H.length)=AE)
  (k:TC P H.length N c' (up env d (.fn (.func f) [] caps)) H (QD H.length f caps))
  (Q:j.dst=AC d:=by rfl)(hg1:QA [j,h].toArray j env true:=by rfl)(hg2:QA [j,h].toArray h (up env d (.fn (.func f) [] caps)) true:=by rfl)(hN:Nat.blt d N=true:=by rfl)
  (n:∃T,h.op=.defer ⟨.value (.tmp d), #[],T⟩:=by exact⟨_,rfl⟩)(hd2:h.dst=none:=by rfl):IR P h0 N (.seq (.region id [j,h].toArray AD) c') env H Q0 QD:=by
 intro fr t σ a w r hn;have G:d<N:=by simp_all
 have R:d<a.tmps.size:=by rw[r.size];exact G
 obtain⟨v,B,L⟩:=hv fr t σ N a w r;obtain⟨l1,g,rfl,M,y⟩:=L;obtain rfl:l1=[]:=M;obtain⟨T,n⟩:=n
 let a1:Act:={a with tmps:=a.tmps.setIfInBounds d (.func (.func f) #[] g.toArray)}
 let D0:Deferred:={target:=.fn (.func f) g.toArray,args:= #[]}
 have F:DH fr t σ H (up env d (.fn (.func f) [] caps)) N a1 w:=⟨r.sim,VR.up (fr:=fr) r.env R ⟨[],g,rfl,rfl,y⟩,by simpa[a1]using r.size,r.defers⟩;have r2:DH fr t σ H (up env d (.fn (.func f) [] caps)) N {a1 with defers:=D0::a.defers} w:=by
  refine⟨F.sim,F.env,F.size,List.nodup_cons.2 ⟨λq=>hn _ q ⟨_,_,rfl⟩,r.defers.1⟩,λd' m=>?_⟩;rcases X7.1 m with rfl|m
  .exact .inr ⟨_,_,rfl⟩
  .exact r.defers.2 d' m
 have he:a1.eval (.tmp d)=.func (.func f) #[] g.toArray:=by
  show(a.tmps.setIfInBounds d _).getD d undef=_
  simp_all
 have z:(execOp a1.eval h).run P w=.ok (.defer D0) w:=by
  simp[execOp,n,resolve,he,Deferred.ofValue,D0]
 refine wpIn_seq (wpIn_region_lit ?_);refine Ju (YT hg1 r) B ?_;simp only[Q,Act.put];unfold D6 wpListIn;rw[Vt (YT hg2 F)];refine⟨λ_ _=>trivial,?_⟩;have hs:(h.semAt (WF AF).round a1.eval).run P w=.ok (.defer D0) w:=by
  have e:h.semAt (WF AF).round a1.eval=execOp a1.eval h:=rfl;rw[e];exact z
 rw[hs];show D6 P AF [j,h].toArray (Exit.then (Code.wpIn (WF AF) 0 P c' (Ww h0 fr t σ w N a.defers Q0 QD)) (Ww h0 fr t σ w N a.defers Q0 QD)) [] (Act.put {a1 with defers:=D0::a.defers} h.dst undef) w;simp only[hd2,Act.put];refine wpListIn_nil ?_;refine Code.wpIn_mono ?_ (k AF fr t σ _ w r2 ZN);rintro e a' w' ⟨x,E,H',O,σ',J,z1,z2,z3,V,X,z6⟩;refine .inr ⟨x,E,H',O,σ',J,H.length,f,caps,g,z1,z2,z3,V,?_,Y,?_,z6⟩
 .have:=congrArg (List.take h0) X
  rwa [List.take_take,List.take_take,XA Y]at this
 .have q:=(belL.take W y).mono (V.extTake X);exact belL.take W q
end
def NJ(P:AK)(h0:Nat)(Q:A->Qd->Prop)(h1:Nat)(f:FuncId)(caps:AA A):Qz
 |.normal,env,H=>∃env' H' fD id l,Le h1 env H env' H'/\P.funcs[f]?=AC fD/\fD.body=AC (.region id (l:AA AM).toArray AD)/\(∀args w,(callFunc f args).run P w=.ok (.enter f args) w)/\Nat.ble caps.length fD.ntmps=AE/\WO P h0 fD.ntmps l.toArray l (KJ 0 caps) H' (Ja P h0 fD λ_ H=>Q (.tup []) H)
 |_,_,_=>False
variable {H':Qd}{env':Env}{h0:Nat}{l:AA AM}
theorem NJ.mk{Q:A->Qd->Prop}{h1:Nat}{f:FuncId}{caps:AA A}{fD:Func}{id:Nat}(hle:Le h1 env H env' H')(hf:P.funcs[f]?=AC fD)(hb:fD.body=AC (.region id l.toArray AD))(eg:∀args w,(callFunc f args).run P w=.ok (.enter f args) w)(hN:Nat.ble caps.length fD.ntmps=AE)
  (h:WO P h0 fD.ntmps l.toArray l (KJ 0 caps) H' (Ja P h0 fD λ_ H=>Q (.tup []) H)):NJ P h0 Q h1 f caps .normal env H:=⟨env',H',fD,id,l,hle,hf,hb,eg,hN,h⟩
theorem Qkd{f:FuncId}{c:Code}{Q:A->Qd->Prop}
  (hf:P.funcs[f]?=AC fn)(hb:fn.body=AC c)(hN:fn.ntmps=N)(hA:Nat.ble args.length N=AE)(hR:fn.results= #[])
  (h:IR P H.length N c (KJ 0 args) H (Ja P H.length fn Q) (NJ P H.length Q)):C P f args H Q:=by
 intro fr ro σ vals w hs hl;have az:=hl.length;have a0:args.length<=N:=by simp_all
 refine(callsIn_wide (n:=0)).1 (callsIn_of_wp_marks hf hb trivial (Code.wpIn_mono ?_ (h fr ro σ _ w ⟨hs,?_,?_,List.nodup_nil,λd t=>by cases t⟩ (λd t=>by cases t))))
 .rintro e X F hp;have E:∀{σ':Ch},σ'.take H.length=σ.take H.length->σ'=σ++σ'.drop H.length:=by
   intro σ' ht;have e1:σ'.take H.length=σ:=by rw[ht,VI (by rw[hs.len];omega)]
   grind[List.take_append_drop]
  rcases hp with⟨x,ab,H1,ad,σ1,O,Y,h2,h3,h4,h5,h6⟩|⟨x,ab,H1,ad,σ1,O,hh,g,V,j,Y,h2,h3,h4,h5,h8,h7,h6⟩
  .have ai:(∃m H' r,Le H.length ab H1 m H'/\Hg P fn m H' r/\Q r H')->LeavesInM Fence.wide 0 P fn X.tmps (λe F=>
     ∃v' r H' y τ,e=.returned v'/\Q r H'/\Ca fr y (σ++τ) H' F/\VR y (σ++τ) F r v'/\Qm fr ro w y F) X.defers .returning F:=by
    rintro⟨m,H',r,ac,hr,hq⟩;obtain⟨y,σ',B,G,ht⟩:=ac O ad σ1 N X F h3;have hσ:=E (ht.trans h5);have s1:Ca fr y σ' H' F:=B.sim.frMono h6.sub;refine JI (ro:=y) (fr:=fr) (σ:=σ') (H:=H') X.defers F B.defers.1 (λd t=>?_) s1 (λT s2 M=>?_)
    .obtain⟨D,rfl,q'⟩:=(h6.ds d t).resolve_left (by simp);obtain⟨L,g2⟩:=B.defers.mark t;exact⟨D,rfl,λq=>B.sim.roFr D q L,λq=>(by have:=hs.frLt D q;omega),λi x q1 q2 q3=>(B.sim.own i D x q1 q2 q3).2.2 L,λi d x q1 q2 q3=>(B.sim.hid i d x D q1 q2 q3).fr L,g2⟩
    .have ar:DH fr y σ' H' m N {X with defers:=[]} T:=⟨s2,λs=>(B.env s).mono (by have:=M.ext σ' [];grind),B.size,List.nodup_nil,λd t=>by cases t⟩;obtain⟨v,e1,e2⟩:=hr fr y σ' N _ T ar;exact⟨v,e1,v,r,H',y,σ'.drop H.length,rfl,hq,hσ▸s2,hσ▸e2,(h4.trans (Yb G)).trans M⟩
   cases e with
   |normal=>
    obtain rfl:x=.normal:=Y;exact ai h2
   |ret=>
    obtain rfl:x=.ret:=Y;exact ai h2
   |exit id=>
    obtain rfl:x=.exit id:=Y;exact h2.elim
   |_=>exact Y.elim
  .cases e with
   |normal=>
    obtain rfl:x=.normal:=Y;obtain⟨m,H',fD,id,l,ac,gf,gb,eg,gN,hw⟩:=h2;obtain⟨z,σ2,r2,G,ht⟩:=ac O ad σ1 N X F h3;have ax:LR z σ2 F V j:=by
     rw[<- ht]at h7;exact h7.mono ⟨G,λ_ _=>rfl,λ_ _ q=>q,λi b q=>by
      by_cases hi:i<hh
      .rw[List.getElem?_take_of_lt hi]at q;exact q
      .rw[XO (by simp;omega)]at q;cases q⟩
    have aw:σ2.take H.length=σ.take H.length:=by
     have:=congrArg (List.take H.length) ht;rw[List.take_take,List.take_take,XA h8]at this;exact this.trans h5
    have ao:∀b,fr b->O b:=h6.sub;have al:({target:=.fn (.func g) j.toArray,args:= #[]}:Deferred)∈X.defers:=h6.kd _ (by simp);have W:∀d∈X.defers,d={target:=.fn (.func g) j.toArray,args:= #[]}\/ ∃D,d={target:=.collected D,args:= #[]}/\w.heap.size<=D/\O D/\F.heap[D]?=AC (.deferred (AC [])):=λd t=>by
     rcases h6.ds d t with q|⟨D,rfl,q⟩
     .exact .inl (by simpa using q)
     .obtain⟨L,g2⟩:=r2.defers.mark t;exact .inr ⟨D,rfl,q,L,g2⟩
    have am:=r2.defers.1;obtain⟨A1,B1,ag⟩:=List.append_of_mem al;rw[ag]at am W;show LeavesInM Fence.wide 0 P fn X.tmps _ X.defers .returning F;rw[ag];obtain⟨n1,n2,n3⟩:=List.nodup_append.1 am;obtain⟨n4,n5⟩:=List.nodup_cons.1 n2
    let frA:Nat->Prop:=λb=>O b/\ ∀D,({target:=.collected D,args:= #[]}:Deferred)∈A1->b≠D
    have cond:∀{frX frY roX:Nat->Prop} {σX:Ch} {HX:Qd} {wX:AJ},Ca frX roX σX HX wX->∀D,frX D->¬frY D->wX.heap[D]?=AC (.deferred (AC []))->
      ∃D',({target:=.collected D,args:= #[]}:Deferred)={target:=.collected D',args:= #[]}/\ ¬roX D'/\ ¬frY D'/\(∀(i:Nat) (x:CW),σX[i]?=AC (AC D')->HX[i]?=AC x->x.live=AE->False)/\(∀(i d:Nat) (x:CW),σX[i]?=AC (AC d)->HX[i]?=AC x->Di wX x d D'->False)/\wX.heap[D']?=AC (.deferred (AC [])):=
     λs D L g2 g3=>⟨D,rfl,λq=>s.roFr D q L,g2,λi x q1 q2 q3=>(s.own i D x q1 q2 q3).2.2 L,λi d x q1 q2 q3=>(s.hid i d x D q1 q2 q3).fr L,g3⟩
    refine sr (ro:=z) (fr:=frA) (σ:=σ2) (H:=H') A1 F n1 (λd t=>?_) (r2.sim.frMono λb q=>q.1) (λT s2 M=>?_)
    .rcases W d (List.mem_append_left _ t)with rfl|⟨D,rfl,g0,L,g2⟩
     .exact absurd rfl (n3 _ t _ (by simp))
     .exact cond r2.sim D L (λq=>q.2 D t rfl) g2
    have af:DL z σ2 F z σ2 T:=by have:=M.ext σ2 [];grind
    have aa:=ax.mono af;have a1:=aa.length;have a2:V.length<=fD.ntmps:=XR gN;have rD:DH frA z σ2 H' (KJ 0 V) fD.ntmps {tmps:=j.toArray++Array.replicate (fD.ntmps-j.toArray.size) undef,defers:=[]} T:=by
     refine⟨s2,λs=>?_,?_,List.nodup_nil,λd t=>by cases t⟩
     .have:=dS (i:=0) [] rfl aa (Array.replicate (fD.ntmps-j.toArray.size) undef) s
      grind
     .grind
    have ae:CallsDIn Fence.wide 0 P g j.toArray .returning T λe u' J=>u'=.returning/\ ∃v,e=.returned v/\ ∃H3 k σ3,Q (.tup []) H3/\Ca frA k σ3 H3 J/\Qm frA z T k J/\σ3.take H.length=σ2.take H.length:=by
     refine callsDIn_of_wp (R:=λe J=>∃v,e=.returned v/\ ∃H3 k σ3,Q (.tup []) H3/\Ca frA k σ3 H3 J/\Qm frA z T k J/\σ3.take H.length=σ2.take H.length) gf gb trivial (wpIn_region_lit (YF ?_ _ _ _ (hw AF frA z σ2 _ T rD ZN)));rintro e a3 J ⟨x,an,H3,k,σ3,aq,z1,z2,z3,z4,z5,z6,z7⟩;have fin:(∃m H' r,Le H.length an H3 m H'/\Hg P fD m H' r/\Q (.tup []) H')->a3.defers=[]/\ ∃v,(results fD a3.tmps).run P J=.ok v J/\ ∃v',Ending.returned v=.returned v'/\ ∃H3 k σ3,Q (.tup []) H3/\Ca frA k σ3 H3 J/\Qm frA z T k J/\σ3.take H.length=σ2.take H.length:=by
      rintro⟨ay,H4,r4,y1,y2,y3⟩;obtain⟨ah,σ4,ak,y4,y5⟩:=y1 aq k σ3 _ a3 J z3;obtain⟨v,e1,e2⟩:=y2 aq ah σ4 _ a3 J ak;exact⟨z6,v,e1,v,rfl,H4,ah,σ4,y3,ak.sim.frMono z7.sub,z4.trans (Yb y4),y5.trans z5⟩
     cases e with
     |normal=>
      obtain rfl:x=.normal:=z1;exact fin z2
     |ret=>
      obtain rfl:x=.ret:=z1;exact fin z2
     |exit id=>
      obtain rfl:x=.exit id:=z1;exact z2.elim
     |_=>exact z1.elim
    refine⟨(by simp),.inr ⟨(λh=>by simp[Fence.wide]at h),.func g,j.toArray,g,j.toArray,rfl,?_,λ_ _=>trivial,ae.mono ?_⟩⟩
    .have:=eg (#[]++j.toArray) T;simpa[invoke]using this
    rintro e u' J ⟨rfl,v,rfl,H3,k,σ3,y1,s3,aj,y4⟩;have hσ:=E (y4.trans aw);refine JI (ro:=k) (fr:=fr) (σ:=σ3) (H:=H3) B1 J n5 (λd t=>?_) (s3.frMono λb q=>⟨ao b q,λD hD e=>?_⟩) (λw4 s4 av=>?_)
    .rcases W d (List.mem_append_right _ (X6 _ t))with rfl|⟨D,rfl,g0,L,g2⟩
     .exact absurd t n4
     .have gA:frA D:=⟨L,λD' hD' e=>by subst e;exact n3 _ hD' _ (X6 _ t) rfl⟩;exact cond s3 D gA (λq=>by have:=hs.frLt D q;omega) ((aj.keepFr D gA).trans ((M.keepFr D gA).trans g2))
    .rcases W _ (List.mem_append_left _ hD)with q'|⟨D',e',g0,_⟩
     .simp at q'
     .have:D=D':=by simpa using e'
      have:=hs.frLt b q;omega
    .have ev:Qm fr ro w k w4:=((h4.trans (Yb G)).trans ((M.trans aj).frMono λb q=>⟨ao b q,λD hD e=>by
      rcases W _ (List.mem_append_left _ hD)with q'|⟨D',e',g0,_⟩
      .simp at q'
      .have:D=D':=by simpa using e'
       have:=hs.frLt b q;omega⟩)).trans av
     exact⟨.tuple #[],by simp[results,hR],.tuple #[],.tup [],H3,k,σ3.drop H.length,rfl,y1,hσ▸s4,⟨[],rfl,rfl⟩,ev⟩
   |ret=>
    obtain rfl:x=.ret:=Y;exact h2.elim
   |exit id=>
    obtain rfl:x=.exit id:=Y;exact h2.elim
   |_=>exact Y.elim
 .intro s;have:=dS (i:=0) [] rfl hl (Array.replicate (fn.ntmps-vals.toArray.size) undef) s
  grind
 grind
variable {E:Nat}
section
variable {P:AK} {o:AM} {env:Env} {H:Qd} {h0 N:Nat} {Q:Qz}
theorem Qj7{α:Type}{i k:Nat}{u:TypeId}{x:Operand}{l:AA α}(G:P.underlying T=AC (.slice E))(z:o.op=.binOp .eql T x (.const (.slice AF 0 0)) u)(y:CQ env x=.osl i 0 l.length k):
  Sg P o env H (λv H'=>∃b:Bool,v=.bool b/\(l≠[]->b=AD)/\H'=H):=by
 intro J q σ N a w r;have h:=Qq r x;rw[y]at h;obtain⟨f,d,h,B⟩:∃f d,a.eval x=.slice f l.length d/\(l≠[]->f.isNone=AD):=by
  rcases h with⟨j,g⟩|⟨b,p,d,t,m,_,g,_⟩
  .exact⟨AF,0,by rw[g,j],λn=>absurd (List.eq_nil_of_length_eq_zero j) n⟩
  .exact⟨_,d,g,λ_=>rfl⟩
 refine⟨.bool f.isNone,H,.bool f.isNone,w,q,[],⟨f.isNone,rfl,λn=>?_,rfl⟩,?_,rfl,by simpa using r.sim,Qm.refl _ _ _⟩
 .grind
 .have F:a.eval (.const (.slice AF 0 0))=.slice AF 0 0:=rfl
  grind[eqGuard,execOp,Sem.run_bind,Result.andThen,Go.run_eql_slice_nil,Sem.run_pure]
theorem Qmq{α:Type}{i k d:Nat}{u:TypeId}{x:Operand}{l:AA α}{all:Array AM}{L:AA AM}(f:P.underlying T=AC (.slice E))(g:CQ env x=.osl i 0 l.length k)
  (j:∀b,(l≠[]->b=AD)->WO P h0 N all L (up env d (.bool b)) H Q)
  (h:o.op=.binOp .eql T x (.const (.slice AF 0 0)) u:=by rfl)(hg:QA all o env true:=by rfl)(hd:o.dst=AC d:=by rfl)(hN:Nat.blt d N=true:=by rfl)(hh:Nat.ble h0 H.length=true:=by rfl):WO P h0 N all (o::L) env H Q:=by
 refine gE (by simp_all) hg hd hN (Qj7 f h g) ?_
 grind
end
mutual
def roFree:A->Bool
 |.rp _=>AD
 |.rsl _ _=>AD
 |.agg cs=>RK cs
 |.fn _ a c=>RK a&&RK c
 |.iface _ v=>roFree v
 |.tup vs=>RK vs
 |_=>AE
def RK:AA A->Bool
 |[]=>AE
 |a::r=>roFree a&&RK r
end
mutual
theorem VR.roFree{ro ro':Nat->Prop}{σ:Ch}{w:AJ}:∀{a:A} {v:AL},Go.Sw.roFree a=AE->VR ro σ w a v->VR ro' σ w a v
 |.any,_,_,_=>trivial
 |.bool _,_,_,h=>h
 |.int _ _,_,_,h=>h
 |.str _,_,_,h=>h
 |.nilp,_,_,h=>h
 |.ptr _ _,_,_,h=>h
 |.rp _,_,hs,_=>by simp[Go.Sw.roFree]at hs
 |.nils,_,_,h=>h
 |.rsl _ _,_,hs,_=>by simp[Go.Sw.roFree]at hs
 |.osl _ _ _ _,_,_,h=>h
 |.agg cs,v,hs,h=>by
  simp only[VR,Go.Sw.roFree]at h hs⊢;obtain⟨l,h1,h2⟩:=h;exact⟨l,h1,LR.roFree hs h2⟩
 |.fn f a c,v,hs,h=>by
  simp only[VR,Go.Sw.roFree,XW]at h hs⊢;obtain⟨l,l',h1,h2,h3⟩:=h;exact⟨l,l',h1,LR.roFree hs.1 h2,LR.roFree hs.2 h3⟩
 |.nilf,_,_,h=>h
 |.iface t a,v,hs,h=>by
  simp only[VR,Go.Sw.roFree]at h hs⊢;obtain⟨x,h1,h2⟩:=h;exact⟨x,h1,VR.roFree hs h2⟩
 |.nilif,_,_,h=>h
 |.map _,_,_,h=>h
 |.nilm,_,_,h=>h
 |.tup vs,v,hs,h=>by
  simp only[VR,Go.Sw.roFree]at h hs⊢;obtain⟨l,h1,h2⟩:=h;exact⟨l,h1,LR.roFree hs h2⟩
theorem LR.roFree{ro ro':Nat->Prop}{σ:Ch}{w:AJ}:∀{cs:AA A} {l:AA AL},RK cs=AE->LR ro σ w cs l->LR ro' σ w cs l
 |[],_,_,h=>h
 |a::r,l,hs,h=>by
  simp only[LR,RK,XW]at h hs⊢;obtain⟨v,l',h1,h2,h3⟩:=h;exact⟨v,l',h1,VR.roFree hs.1 h2,LR.roFree hs.2 h3⟩
end
inductive SH:CW->CW->Prop
 |kc (t:Nat) (cs:List A) (h:RK cs=AE):SH (.cells t cs) (.cells t cs)
 |mp (es:List (A×A)):SH (.fmap es) (.map es)
inductive KH:Qd->Qd->Prop
 |nil:KH [] []
 |cons {x y:CW} {r s:Qd} (h:SH x y) (k:KH r s):KH (x::r) (y::s)
theorem KH.len{a b:Qd}(h:KH a b):a.length=b.length:=by induction h<;>simp_all
theorem KH.at{a b:Qd}(h:KH a b):∀{i:Nat} {y:CW},b[i]?=AC y->∃x,a[i]?=AC x/\SH x y:=by
 induction h with
 |nil=>intro i y q;simp at q
 |cons h k d=>
  intro i y q;cases i with
  |zero=>exact⟨_,rfl,by simp at q;exact q▸h⟩
  |succ i=>simpa using d (by simpa using q)
theorem SH.live{x y:CW}(h:SH x y):y.live=true:=by cases h<;>rfl
theorem yo{β:Type}{f:FuncId}{Hf:Qd}{ra:β->A}{r:β}(O:KH Hf H)(hC:m5 P f args Hf ra r)(hs:Ys (ra r)=AE):m5 P f args H ra r:=by
 intro fr W σ vals w s hl;have J:σ.length=Hf.length:=s.len.trans O.len.symm
 let lent:Nat->Prop:=λb=>∃(i:Nat) (F:AA (A×A)),σ[i]?=AC (AC b)/\H[i]?=AC (.map F)
 have d:∀b,lent b->b<w.heap.size/\ ¬W b/\ ¬fr b:=λb ⟨i,F,k,g⟩=>s.own i b _ k g rfl
 let roF:Nat->Prop:=λb=>W b\/lent b
 have M:DL W σ w roF σ w:=⟨λ_ q=>.inl q,λ_ _=>rfl,λ_ _ q=>q,λ_ _ q=>q⟩;have sF:Ca fr roF σ Hf w:=by
  refine⟨J,s.roOk.to (λ_ q=>.inl q) (λ_ _=>rfl) (λb q=>q.elim (s.roLt b) λq=>(d b q).1),s.frLt,λb q=>q.elim (s.roFr b) λq=>(d b q).2.2,λi b x k g L=>?_,λi j b x y k g L h4 h5 h6=>?_,λi o x k g=>?_,λi b x c k g L=>?_⟩
  all_goals
   have V:∀{i:Nat} {x:CW},Hf[i]?=AC x->∃y,H[i]?=AC y/\SH x y:=λ{i x} q=>by
    have:i<H.length:=by rw[<- O.len];exact(XL.1 q).1
    obtain⟨x',n,m⟩:=O.at (XK this);rw[q]at n;cases n;exact⟨_,XK this,m⟩
  .obtain⟨y,n,m⟩:=V g;obtain⟨p1,Y,X⟩:=s.own i b y k n m.live;refine⟨p1,λq=>q.elim Y ?_,X⟩;rintro⟨j,F,z1,z2⟩;have:=s.inj i j b _ _ k z1 n z2 m.live rfl;subst this;rw[n]at z2;cases z2;cases m;cases L
  .obtain⟨y1,n,m⟩:=V L;obtain⟨y2,q3,q4⟩:=V h4;exact s.inj i j b _ _ k g n q3 m.live q4.live
  .obtain⟨y,n,m⟩:=V g;have G:=s.blk i o y k n;cases m with
   |kc t cs h=>exact G.keep M (λ_ _ _=>rfl) (λ_ _ _ _=>rfl)
   |mp F=>
    cases o with
    |none=>exact G.elim
    |some b=>
     obtain⟨l,B,Q,T,R⟩:=G;exact⟨.inr ⟨i,F,k,n⟩,l,B,Q,T.mono ⟨λ_ q=>.inl q,λ_ _=>rfl,λ_ _ q=>q,λ_ _ q=>q⟩,R⟩
  .obtain⟨y,n,m⟩:=V g;cases m<;>exact L.elim
 refine Calls.mono (hC fr roF σ vals w sF (hl.mono M)) ?_;rintro e w' ⟨v,r',H1,ab,τ,rfl,⟨rfl,rfl⟩,N,hv,ev⟩;have hτ:τ=[]:=by
  have:=N.len;rw[X3,J]at this;exact List.eq_nil_of_length_eq_zero (by omega)
 subst hτ;rw[Vh]at N hv
 let ro2:Nat->Prop:=λb=>ab b/\ ¬lent b
 have E:∀b,W b->ro2 b:=λb q=>⟨ev.sub b (.inl q),λq'=>(d b q').2.1 q⟩;have aa:∀b,lent b->w'.heap[b]?=w.heap[b]? :=λb q=>ev.keepRo b (.inr q);refine⟨v,_,H,ro2,[],rfl,⟨rfl,rfl⟩,?_,?_,⟨E,λb q=>ev.keepRo b (.inl q),ev.keepFr,ev.size,ev.shape,ev.os,ev.tape,ev.output,ev.drawn⟩⟩
 .rw[Vh];refine⟨s.len,s.roOk.to E (λb q=>ev.keepRo b (.inl q)) (λb q=>N.roLt b q.1),N.frLt,λb q=>N.roFr b q.1,λi b y k g L=>?_,s.inj,λi o y k g=>?_,λi b y c k g L=>?_⟩
  .obtain⟨x,n,m⟩:=O.at g;cases m with
   |kc t cs h=>
    obtain⟨p1,Y,X⟩:=N.own i b _ k n rfl;exact⟨p1,λq=>Y q.1,X⟩
   |mp F=>
    have q:lent b:=⟨i,F,k,g⟩;exact⟨Vg (d b q).1 ev.size,λz=>z.2 q,(d b q).2.2⟩
  .obtain⟨x,n,m⟩:=O.at g;cases m with
   |kc t cs h=>
    have G:=N.blk i o _ k n;cases o with
    |none=>exact G
    |some b=>
     obtain⟨l,Q,T,R⟩:=G;exact⟨l,Q,T.roFree h,R⟩
   |mp F=>
    have G:=s.blk i o _ k g;cases o with
    |none=>exact G
    |some b=>
     obtain⟨l,B,Q,T,R⟩:=G;exact⟨l,B,(aa b ⟨i,F,k,g⟩).trans Q,T.mono ⟨E,λb q=>ev.keepRo b (.inl q),ev.shape,λ_ _ q=>q⟩,R⟩
  .obtain⟨x,n,m⟩:=O.at g;cases m<;>exact L.elim
 .exact hv.scalar hs
variable {y:Operand}
theorem iC{o:AM}{n j:Nat}{x:Operand}{q:AA A}{k:IntKind}{i:Int}{v:A}(f:(i==j)=AE)(J:q[j]?=AC v)(Q:Nat.blt j n=AE)(L:∀w,(underlying t).run P w=.ok (.array n E) w)(F:∀w,(isAgg E).run P w=.ok AD w)(z:∀w,(Go.sizeOf E).run P w=.ok 1 w)
  (G:o.op=.index t x y:=by rfl)(hx:CQ env x=.agg q:=by rfl)(hy:CQ env y=.int k i:=by rfl):CU P o env H v:=by
 intro W V σ N a w r;have d:=Qq r x;rw[hx]at d;obtain⟨m,d,M⟩:=d;have T:=QV r hy;have e:i=(j:Int):=by simpa using f
 subst e;have g:(j:Int)<n:=by simpa using Q
 have R:(0:Int)<=(j:Int):=by omega
 obtain⟨u,B,O⟩:=M.get _ J;refine⟨u,?_,O⟩;generalize a.eval=ρ at*;simp[G,d,T,Instr.index,L,R,g,z,F,B,go_sem];intro h;omega
variable {e:α->AA A}{rows:AA (AA Int)}{u:Nat}
section
variable {P:AK} {o:AM} {env:Env} {H:Qd} {fr ro:Nat->Prop} {σ:Ch} {w:AJ}
def YK(b:Nat)(rows:AA (AA α)):AA (AA A):=rows.mapIdx λj r=>[A.osl (b+j) 0 r.length 1]
theorem tV(b:Nat)(rows:AA (AA α)):(YK b rows).length=rows.length:=by simp[YK]
theorem Ji{α:Type}{b i:Nat}{rows:AA (AA α)}{r:AA α}(h:rows[i]?=AC r):(YK b rows)[i]?=AC [.osl (b+i) 0 r.length 1]:=by simp[YK,h]
theorem ql(b:Nat)(rows:AA (AA α))(r:AA α):YK b (rows++[r])=YK b rows++[[.osl (b+rows.length) 0 r.length 1]]:=by simp[YK,List.mapIdx_append]
theorem qm{α:Type}{b i:Nat}{rows:AA (AA α)}{r d:AA α}(h:rows[i]?=AC r)(f:r.length=d.length):YK b (rows.set i d)=YK b rows:=by
 apply List.ext_getElem?;intro j;simp only[YK,List.getElem?_mapIdx]
 grind
theorem kp{α:Type}{ρ:Nat->Nat}:∀{rows:AA (AA α)} {b b':Nat},(∀j,j<rows.length->ρ (b+j)=b'+j)->Kv ρ (YK b rows)=YK b' rows
 |[],_,_,_=>rfl
 |r::rows,b,b',h=>by
  have e:∀x:Nat,YK x (r::rows)=[A.osl x 0 r.length 1]::YK (x+1) rows:=λx=>by
   simp only[YK,List.mapIdx_cons,Xw];congr 1;apply List.ext_getElem?;intro j;simp only[List.getElem?_mapIdx];have:x+(j+1)=x+1+j:=by omega
   rw[this]
  have f:ρ b=b':=by simpa using h 0 (by simp)
  rw[e b,e b',Kv,kp (b':=b'+1) (λj d=>by have:=h (j+1) (by simpa using d);rw[show b+1+j=b+(j+1)from by omega,this];omega)];simp only[JB,YY,f]
def HB(b:Nat)(rows:AA (AA α))(m:Nat):AA (AA A):=YK b rows++List.replicate m [.nils]
theorem Qm0(b:Nat)(m:Nat):HB (α:=α) b [] m=List.replicate m [.nils]:=rfl
theorem qk{α:Type}{b i m:Nat}{rows:AA (AA α)}{r:AA α}(h:rows[i]?=AC r):(HB b rows m)[i]?=AC [.osl (b+i) 0 r.length 1]:=by
 have:=Ji (b:=b) h;have d:=(XL.1 this).1;simp only[HB,XM d,this]
theorem T?{α:Type}{b m:Nat}{rows:AA (AA α)}:(HB b rows (m+1))[rows.length]?=AC [.nils]:=by
 simp[HB,tV]
theorem QmZ{α:Type}{b m:Nat}{rows:AA (AA α)}{r:AA α}:(HB b rows (m+1)).set rows.length [.osl (b+rows.length) 0 r.length 1]=HB b (rows++[r]) m:=by
 simp[HB,ql,tV,Xl]
theorem Qlp{α:Type}{b m:Nat}{rows:AA (AA α)}{r d:AA α}(f:r.length=d.length):HB b (rows++[r]) m=HB b (rows++[d]) m:=by
 simp[HB,ql,f]
def QZ(t:Nat)(rows:AA (AA Int)):Qd:=rows.map λr=>.row t 1 (r.map (Qe .i64))
theorem YO{i:Nat}(pre:Qd){r:AA Int}(h:rows[i]?=AC r):(pre++QZ t rows)[pre.length+i]?=AC (.row t 1 (r.map (Qe .i64))):=by
 rw[XN (by omega)];simp[QZ,h]
theorem lS{i:Nat}(pre:Qd)(r:AA Int):(pre++QZ t rows).set (pre.length+i) (.row t 1 (r.map (Qe .i64)))=pre++QZ t (rows.set i r):=by
 rw[List.set_append_right _ _ (by omega)];simp[QZ,List.map_set]
theorem QlJ(t:Nat)(rows:AA (AA Int))(r:AA Int):QZ t (rows++[r])=QZ t rows++[.row t 1 (r.map (Qe .i64))]:=by simp[QZ]
theorem qu(ρ:Nat->Nat)(t:Nat)(rows:AA (AA Int)):(QZ t rows).map (QW ρ)=QZ t rows:=by
 simp only[QZ,List.map_map];rfl
theorem qn{a:CW}{m:Nat}{r l:AA Int}(d:r.length=l.length):
  ([a,.rowr t 1 (HB 2 (rows++[r]) m)]++QZ u (rows++[r])).set (2+rows.length) (.row u 1 (l.map (Qe .i64)))=[a,.rowr t 1 (HB 2 (rows++[l]) m)]++QZ u (rows++[l]):=by
 have:=lS (t:=u) (i:=rows.length) [a,.rowr t 1 (HB 2 (rows++[r]) m)] (rows:=rows++[r]) l;rw[show[a,CW.rowr t 1 (HB 2 (rows++[r]) m)].length=2 from rfl]at this;rw[this,Qlp d];simp
theorem Qo9{a:CW}{i:Nat}{r l:AA Int}(h:rows[i]?=AC r)(d:r.length=l.length):
  ([a,.rowr t 1 (YK 2 rows)]++QZ u rows).set (2+i) (.row u 1 (l.map (Qe .i64)))=[a,.rowr t 1 (YK 2 (rows.set i l))]++QZ u (rows.set i l):=by
 rw[qm h d];exact lS (i:=i) [a,.rowr t 1 (YK 2 rows)] l
theorem QmY{a x:CW}{i:Nat}{r l:AA Int}(h:rows[i]?=AC r)(d:r.length=l.length):
  ([a,.rowr t 1 (YK 3 rows),x]++QZ u rows).set (3+i) (.row u 1 (l.map (Qe .i64)))=[a,.rowr t 1 (YK 3 (rows.set i l)),x]++QZ u (rows.set i l):=by
 rw[qm h d];exact lS (i:=i) [a,.rowr t 1 (YK 3 rows),x] l
def cP(env:Env):Env->Prop
 |[]=>True
 |(s,a)::r=>lk env s=a/\cP env r
theorem cP.ok{env:Env}:∀{env':Env},cP env env'->∀s,lk env' s=.any\/lk env' s=lk env s
 |[],_,s=>.inl rfl
 |(k,a)::r,h,s=>by
  simp only[lk];by_cases q:s=k
  .subst q;rw[VE];exact .inr h.1.symm
  .have:Nat.beq s k=false:=by rw[VM];intro d;exact q (XQ d)
   rw[this];exact cP.ok h.2 s
theorem Y2(h:cP env env'):Le h0 env H env' H:=Le.env h.ok
def P2(n:Nat):AA Nat:=0::1::(2+n)::(List.range n).map (2+ ·)
def RA(n:Nat):AA Nat:=0::1::(List.range n).map (3+ ·)
theorem lu(k n:Nat):((List.range n).map (k+ ·)).Nodup:=by
 show List.Pairwise _ _;rw[List.pairwise_map];exact List.nodup_range.imp λh q=>h (by omega)
theorem QoR{a x:CW}(h:∀ρ,QW ρ a=a)(f:∀ρ,QW ρ x=x)(hE:Hw (Ci (P2 rows.length) (2+rows.length+1)) env env'):
  Le 0 env (([a,.rowr t 1 (YK 2 rows)]++QZ u rows)++[x]) env' ([a,.rowr t 1 (YK 3 rows),x]++QZ u rows):=by
 have d:(([a,.rowr t 1 (YK 2 rows)]++QZ u rows)++[x]).length=2+rows.length+1:=by simp[QZ];omega
 refine j4 (P2 rows.length) rfl ?_ ?_ (by rw[d];exact hE)
 .rw[d,Xf,qu];have e:Kv (Ci (P2 rows.length) (2+rows.length+1)) (YK 3 rows)=YK 2 rows:=kp λj g=>by
   have:(P2 rows.length)[3+j]?=AC (2+j):=by
    rw[show 3+j=j+1+1+1 from by omega];simp[P2,g]
   simp[Ci,this]
  have k:QW (Ci (P2 rows.length) (2+rows.length+1)) (.rowr t 1 (YK 3 rows))=.rowr t 1 (YK 2 rows):=congrArg (CW.rowr t 1) e;simp only[Vk,Vl,h,f,k];simp only[P2,Vk,List.map_map];apply List.ext_getElem?;intro i
  match i with
  |0=>rfl
  |1=>rfl
  |2=>simp[QZ];rw[show 2+rows.length=rows.length+1+1 from by omega];simp
  |i+3=>
   simp only[XF,Xo,Xf,Vk,Vl,VK,Vi];by_cases q:i<rows.length
   .simp[q,QZ];rw[show 2+i=i+1+1 from by omega];simp only[XF];rw[XM (by simpa using q)];simp[q]
   .simp[QZ,q]
 .rw[show P2 rows.length=0::1::(2+rows.length)::(List.range rows.length).map (2+ ·)from rfl];simp only[List.nodup_cons];exact⟨by grind,by grind,by grind,lu 2 _⟩
theorem QmK{a x:CW}(h:∀ρ,QW ρ a=a)(hE:Hw (Ci (RA rows.length) (3+rows.length)) env env'):
  Le 0 env ([a,.rowr t 1 (YK 3 rows),x]++QZ u rows) env' ([a,.rowr t 1 (YK 2 rows)]++QZ u rows):=by
 have d:([a,.rowr t 1 (YK 3 rows),x]++QZ u rows).length=3+rows.length:=by simp[QZ];omega
 refine j4 (RA rows.length) rfl ?_ ?_ (by rw[d];exact hE)
 .rw[d,Xf,qu];have e:Kv (Ci (RA rows.length) (3+rows.length)) (YK 2 rows)=YK 3 rows:=kp λj g=>by
   have:(RA rows.length)[2+j]?=AC (3+j):=by
    rw[show 2+j=j+1+1 from by omega];simp[RA,g]
   simp[Ci,this]
  have f:QW (Ci (RA rows.length) (3+rows.length)) (.rowr t 1 (YK 2 rows))=.rowr t 1 (YK 3 rows):=congrArg (CW.rowr t 1) e;simp only[Vk,Vl,h,f];simp only[RA,Vk,List.map_map];apply List.ext_getElem?;intro i
  match i with
  |0=>rfl
  |1=>rfl
  |i+2=>
   simp only[XF,Xo,Xf,Vk,Vl,VK,Vi];by_cases q:i<rows.length
   .simp[q,QZ];rw[show 3+i=i+1+1+1 from by omega];simp[q]
   .simp[QZ,q]
 .rw[show RA rows.length=0::1::(List.range rows.length).map (3+ ·)from rfl];simp only[List.nodup_cons];exact⟨by grind,by grind,lu 3 _⟩
theorem _L{k:Nat}{x:Operand}{B J:IntKind}{n:Int}{zv:α}{l:AA α}{z:AL}{a:A}(Q:mk n zv=AC l)(E:ElemTy P T et k)(W:∀w,(zeroValue et).run P w=.ok z w)(f:ZR a z)
  (R:Yi a=AE)(m:Yf a=e zv)(V:(Yf a).all Yr=AE)(d:Nat.beq (e zv).length k=AE)
  (L:o.op=.makeSlice T x y:=by rfl)(hx:CQ env x=.int B n:=by rfl)(hy:CQ env y=.int J n:=by rfl):
  D3 P o env H (.osl H.length 0 l.length k) (H++[.rowr et k (l.map e)]):=by
 intro fr F σ N act w r;obtain⟨G,X,j,O,M,h,Y⟩:=pR Q E W f R m V d L hx hy r;have g:=r.sim.allocRowr (t:=et) (rest:=[]) M (j.mono ⟨λ_ q=>q,λ_ _=>rfl,λ_ _ q=>q,λ_ _ q=>by cases q⟩) O;rw[Vh]at g;refine⟨_,_,F,[AC w.heap.size],X,.inr ⟨w.heap.size,0,l.length,et,G.length,?_,rfl,λ_=>by simp,⟨XT _,by omega⟩,?_,by rw[h,Xv];exact XT _⟩,g,Qm.alloc _ r.sim.roLt r.sim.frLt⟩
 .rw[<- r.sim.len];simp
 .unfold World.shape?;rw[Yw];simp
theorem Qge{n i k e f:Nat}{x:Operand}{d:AA (AA A)}{c vs M:AA A}{v:A}(ho:o.op=.store t x y)(hx:CQ env x=.ptr i off)(hH:H[i]?=AC (.rowr T k es))(hs:∀w,(sizeOf t).run P w=.ok n w)
  (j:off=e*k+f)(hc:es[e]?=AC c)(E:CQ env y=v)(hk:Yi v=AE)(hv:Yf v=vs)(Y:vs.length=n)(R:vs.all Yr=AE)(hf:Nat.ble (f+n) k=AE)
  (F:splice c f vs=M)(z:es.set e M=d):
  Io P o env H (H.set i (.rowr T k d)):=by
 intro fr V σ N a w r;have q:=Qq r x;rw[hx]at q;obtain⟨b,q,h2⟩:=q;have L:=Qq r y;rw[E]at L;obtain⟨m,h4,g⟩:=L.cells hk;rw[hv]at g;obtain⟨l,Q,G⟩:=r.sim.blk i _ _ q hH;have W:f+n<=k:=by simp_all
 have hm:m.length=n:=by rw[g.length,Y]
 have X:e<es.length:=(by grind);have J:off+n<=l.length:=by
  have:=G.length;have h6:=XB k X
  grind
 have O:=Yz (P:=P) off 0 Q (by omega) (g.plain R);have h:=r.sim.set (x':=.rowr T k d) (obj:=.cells (splice l off m).toArray T (0,0)) q hH rfl
  (λy E=>Jw Q (Yy (by omega)) y E)
  (λex B=>⟨_,B,by
   subst z F j;exact(G.splice hc g (g.plain R) (by omega)).mono ex⟩)
 refine⟨_,V,[],?_,by grind,h.2⟩
 simp_all[storeVar,execOp,Instr.storeAt,Instr.sureAddr]
theorem _w{i n:Nat}{v:AL}(s:Ca fr ro σ H w)(hσ:∀c,σ[i]?=AC (AC c)->ro' c)(d:∀c,ro c->ro' c)(hH:H[i]?=AC (.row t 1 es))(f:es.length=n)
  (h:VR ro σ w (.osl i 0 n 1) v):VR ro' [] w (.rsl 1 es) v:=by
 have:=Qo7 (j:=0) (n:=n) s hσ d hH (by omega) (by simpa using h);simpa[<- f]using this
theorem oJ{ro':Nat->Prop}{b t d:Nat}{α:Type}{e:α->AA A}(s:Ca fr ro σ H w)(g:∀c,ro c->ro' c):
  ∀(rows:AA (AA α)) (k f:Nat),(∀j r,rows[j]?=AC r->H[b+(k+j)]?=AC (.row t 1 (r.map e))/\ ∀c,σ[b+(k+j)]?=AC (AC c)->ro' c)->
   RR ro σ w d 1 (YK (b+k) rows) f->RR ro' [] w d 1 (rows.map λr=>[.rsl 1 (r.map e)]) f
 |[],_,_,_,_=>trivial
 |r::rows,k,f,hl,h=>by
  have e1:YK (b+k) (r::rows)=[A.osl (b+k) 0 r.length 1]::YK (b+(k+1)) rows:=by
   simp only[YK,List.mapIdx_cons,Xw];congr 1;apply List.ext_getElem?;intro j;simp only[List.getElem?_mapIdx];have:b+k+(j+1)=b+(k+1)+j:=by omega
   rw[this]
  rw[e1]at h;obtain⟨_,⟨⟨v,y,x,n⟩,_⟩,E⟩:=h;obtain⟨B,z⟩:=hl 0 r rfl;refine⟨rfl,⟨⟨v,y,x,_w s z g B (by simp) n⟩,trivial⟩,oJ (b:=b) (t:=t) s g rows (k+1) (f+1) (λj q m=>?_) E⟩;have:=hl (j+1) q m
  grind
theorem _K{s i b t1 c:Nat}{rows:AA (AA α)}(f:rows.length=c)(Y:i<b)(X:lk env s=.osl i 0 c 1)(hH:H[i]?=AC (.rowr t 1 (YK b rows)))
  (M:∀j r,rows[j]?=AC r->H[b+j]?=AC (.row t1 1 (r.map e))):
  Le h0 env H (up env s (.rsl 1 (rows.map (Qx 1 e)))) (ji H (i::(List.range c).map (b+ ·))):=by
 intro fr Q σ N a w r;obtain⟨g,P,E,G⟩:=r.sim.shutL (l:=i::(List.range c).map (b+ ·)) (by
   rw[List.nodup_cons];exact⟨by simp;omega,lu b c⟩) (by
  intro j F;simp at F;rcases F with rfl|⟨V,q,rfl⟩
  .exact⟨_,hH,rfl⟩
  .subst f;exact⟨_,M V _ (XK q),rfl⟩)
 refine⟨g,σ,⟨P,?_,r.size,r.defers⟩,E,rfl⟩;have ext:DL Q σ w g σ w:=⟨E,λ_ _=>rfl,λ_ _ q=>q,λ_ _ q=>q⟩;intro k;simp only[lk];by_cases q:k=s
 .subst q;rw[VE];have h:=r.env k;rw[X]at h;have e0:rows.map (Qx 1 e)=rows.map λr=>[A.rsl 1 (r.map e)]:=by simp[Qx]
  rw[e0];rcases h with⟨z,h⟩|⟨d,p,B,t',m,J,h,O,⟨W,aa⟩,h4,h5⟩
  .subst z;exact⟨AF,0,by simpa[f]using h,by simp[f],.inl (by simpa using f)⟩
  .refine⟨_,B,by simpa[f]using h,by simpa[f]using W,?_⟩;by_cases y:c=0
   .left;simpa[y]using f
   .right;obtain rfl:=O (by omega);obtain⟨lv,q1,T⟩:=r.sim.blk i _ _ J hH;refine⟨d,0,by simp,G i (by simp) d J,?_⟩;refine oJ (b:=b) (t:=t1) r.sim E rows 0 0 (λj x L=>?_) (YR (pre:=[]) (by simpa using q1) T);rw[Xv];refine⟨M j x L,λc' n=>G (b+j) ?_ c' n⟩;have:=(XL.1 L).1;simp;omega
 .have:Nat.beq k s=false:=by
   rw[VM];intro R;exact q (XQ R)
  rw[this];exact(r.env k).mono ext
end
section
variable {P:AK} {h0 N:Nat} {all:Array AM} {o:AM} {l:AA AM} {env:Env} {H:Qd} {Q:Qz} {k:AA Kf} {x:K7} {c:Code}
theorem aS(h:WO P h0 N all l env H Q):WO P h0 N all l env H Q:=h
theorem aU(h:TC P h0 N c env H Q):TC P h0 N c env H Q:=h
theorem jP(h:kq P h0 N k Q x env H):kq P h0 N k Q x env H:=h
theorem aT(h:TC P h0 N c env H (kq P h0 N k Q)):TC P h0 N c env H (kq P h0 N k Q):=h
theorem aR(h:WO P h0 N all l env H (kq P h0 N k Q)):WO P h0 N all l env H (kq P h0 N k Q):=h
theorem K0c(h:TC P h0 N c env H (kq P h0 N [] Q)):TC P h0 N c env H Q:=h
theorem K0w(h:WO P h0 N all l env H (kq P h0 N [] Q)):WO P h0 N all l env H Q:=h
theorem jN(h:Le h0 env H env' H'):Le h0 env H env' H':=h
def yk(all:Array AM)(o:AM):AB Nat:=match o.guard with
 |some (j,_)=>(all[j]?).bind (·.dst)
 |none=>AF
theorem IsU{α:Type}{b:Bool}{x y:AB α}{r:α}{s:Nat}(hs:yk all o=AC s)(hb:Rj env s=.mk (.bool b))(h:(bif b then x else y)=AC r)
  (t:b=AE->x=AC r->WO P h0 N all (o::l) (up env s (.bool AE)) H Q)(e:b=AD->y=AC r->WO P h0 N all (o::l) (up env s (.bool AD)) H Q):WO P h0 N all (o::l) env H Q:=Is s h hb t e
end
abbrev ON:=AB (AA Nat)
def Mw:AA Nat->Nat->Nat->ON
 |[],_,_=>AC []
 |_::r,0,j=>AC (j::r)
 |a::r,i+1,j=>(Mw r i j).bind λr'=>AC (a::r')
mutual
def aD:A->A->AA Nat->ON
 |.ptr i _,.ptr j _,l=>Mw l i j
 |.osl i _ _ _,.osl j _ _ _,l=>Mw l i j
 |.map i,.map j,l=>Mw l i j
 |.agg a,.agg b,l=>Rh a b l
 |.fn _ a c,.fn _ a' c',l=>(Rh a a' l).bind λl'=>Rh c c' l'
 |.iface _ v,.iface _ v',l=>aD v v' l
 |_,_,l=>AC l
def Rh:AA A->AA A->AA Nat->ON
 |a::r,b::s,l=>(aD a b l).bind λl'=>Rh r s l'
 |_,_,l=>AC l
end
def t7:CW->CW->AA Nat->ON
 |.cells _ a,.cells _ b,l=>Rh a b l
 |_,_,l=>AC l
def Wk(H:Qd):Nat->Qd->AA Nat->ON
 |i,b::r,l=>match YH l i with
  |some p=>match YH H p with
   |some b'=>(t7 b b' l).bind λl'=>Wk H (i+1) r l'
   |none=>Wk H (i+1) r l
  |none=>AC l
 |_,[],l=>AC l
def M4{α:Type}:AA α->AA Nat
 |[]=>[]
 |_::r=>99::M4 r
def NA:AA Nat->ON
 |[]=>AC []
 |a::r=>(YH ixL a).bind λa'=>(NA r).bind λr'=>AC (a'::r')
def iY(argsc args:AA A)(Hc H:Qd):ON:=(Rh argsc args (M4 Hc)).bind λl=>(Wk H 0 Hc l).bind NA
def Pq:AA Nat->Bool
 |[]=>AE
 |a::r=> !Fb r a&&Pq r
theorem c7{l:AA Nat}(h:Pq l=AE):l.Nodup:=by
 induction l with
 |nil=>simp
 |cons a r d=>
  simp only[Pq,XW,Bool.not_eq_true']at h;rw[ta]at h;simp only[List.nodup_cons];refine⟨λq=>?_,d h.2⟩;have:r.contains a=true:=by simpa using q
  grind
def aW{α:Type}:AA α->AA Nat->ON
 |_::r,i::s=>(aW r s).bind λl=>AC (i::l)
 |_,_=>AC []
def nw(d:Nat):Env->ON
 |[]=>AC []
 |(s,_)::r=>(nw d r).bind λl=>match Fb (d::l) s with
   |true=>AC l
   |false=>AC (s::l)
def ny:AA AM->AB Nat
 |[]=>AF
 |[o]=>o.dst
 |_::r=>ny r
def cK:AA AM->Bool
 |[]=>AD
 |o::r=>match o.guard with
  |some _=>AE
  |none=>cK r
def aH:Code->AB Nat
 |.region _ ⟨l⟩ AD=>match cK l with
  |true=>ny l
  |false=>AF
 |_=>AF
def SC:AA AM->AA Nat->ON
 |[],l=>AC l
 |o::r,l=>match o.dst with
  |some d=>SC r (d::l)
  |none=>SC r l
def P0:Code->AA Nat->ON
 |.seq a b,l=>(P0 a l).bind λl'=>P0 b l'
 |.cond _ a b,l=>(P0 a l).bind λl'=>P0 b l'
 |.block _ c,l=>P0 c l
 |.loop c,l=>P0 c l
 |.region _ ⟨r⟩ _,l=>SC r l
 |_,l=>AC l
def fK:AA Operand->AA Nat->AA Nat
 |[],l=>l
 |.tmp s::r,l=>fK r (s::l)
 |_::r,l=>fK r l
def Zc:AA AM->AA Nat->AA Nat
 |[],l=>l
 |o::r,l=>Zc r (fK o.op.operands.toList l)
def NN:Code->AA Nat->AA Nat
 |.seq a b,l=>NN b (NN a l)
 |.cond x a b,l=>NN b (NN a (fK [x] l))
 |.block _ c,l=>NN c l
 |.loop c,l=>NN c l
 |.region _ ⟨r⟩ _,l=>Zc r l
 |_,l=>l
def Rm(a:Nat):AA Nat->ON
 |[]=>AC [a]
 |b::r=>match Nat.ble a b with
  |true=>AC (a::b::r)
  |false=>(Rm a r).bind λr'=>AC (b::r')
def cT(az us:AA Nat):Env->AA Nat->AA Nat->AB (AA Nat×AA Nat)
 |[],v,k=>AC (v,k)
 |(s,_)::r,v,k=>match Fb v s||Fb k s with
  |true=>cT az us r v k
  |false=>match Fb az s with
   |true=>match Fb us s with
    |true=>(Rm s v).bind λv'=>cT az us r v' k
    |false=>cT az us r v k
   |false=>cT az us r v (s::k)
def iV(c:Code)(env:Env):AB (AA Nat×AA Nat):=(P0 c []).bind λaz=>cT az (NN c []) env [] []
class EncS (β:Type) where
 e:β->AA A
instance:EncS Bool:=⟨λb=>[.bool b]⟩
instance:EncS Int:=⟨λb=>[.int .i64 b]⟩
instance {α β:Type} [EncS α] [EncS β]:EncS (α×β):=⟨λp=>EncS.e p.1++EncS.e p.2⟩
def Mp:AA Nat->AA A->Env
 |a::r,b::s=>(a,b)::Mp r s
 |_,_=>[]
def Rc:AA Nat->Nat->AA Nat->ON
 |i::s,n+1,_::r=>(Rc s n r).bind λr'=>AC (i::r')
 |_,_,l=>AC l
def bT:AA Nat->AA Nat->ON
 |i::s,a::r=>(bT s r).bind λr'=>match Nat.beq a 99 with
   |true=>AC (i::r')
   |false=>AC (a::r')
 |_,l=>AC l
def bN(env:Env):Env->AA Nat->ON
 |[],l=>AC l
 |(s,a)::r,l=>(aD a (lk env s) l).bind λl'=>bN env r l'
def t3(h0:Nat)(env:Env)(H:Qd)(env':Env)(H':Qd):ON:=(Rc ixL h0 (M4 H')).bind λl0=>(bN env env' l0).bind λl1=>(Wk H 0 H' l1).bind λl2=>(bT ixL l2).bind NA
theorem th{π:AA Nat}(h:t3 h0 env H env' H'=AC π)(hpre:π.take h0=List.range h0)(hH:π.map (λp=>H[p]?)=(H'.map (QW (Ci π H.length))).map AC)(hn:Pq π=AE)(hE:Hw (Ci π H.length) env env'):Le h0 env H env' H':=Lr π hpre hH (c7 hn) hE
variable {Q:Qz}{β:Type}
variable {E':β->Env}
theorem ClV{d:Nat}{e b:β}{H':β->Qd}(h:AC e=AC b)(g:Le d env H (E' e) (H' e)):KI d b E' H' Q .normal env H:=by
 cases h;exact g
def Ra(env:Env)(H:Qd):AA ResultVar->AB (AA A×AA Nat×AA Nat)
 |[]=>AC ([],[],[])
 |.tmp s::r=>(Ra env H r).bind λp=>AC (lk env s::p.1,p.2.1,s::p.2.2)
 |.cell s _::r=>(Ra env H r).bind λp=>match lk env s with
  |.ptr j _=>match YH H j with
   |some (.cells _ cs)=>AC (.agg cs::p.1,j::p.2.1,s::p.2.2)
   |_=>AC (.any::p.1,j::p.2.1,s::p.2.2)
  |_=>AC (.any::p.1,p.2.1,s::p.2.2)
def nL:A->A->AA Nat->ON
 |.agg a,.agg b,l=>Rh a b l
 |a,.agg [b],l=>aD a b l
 |a,b,l=>aD a b l
def aC:AA A->AA A->AA Nat->ON
 |a::r,b::s,l=>(nL a b l).bind λl'=>aC r s l'
 |_,_,l=>AC l
def t6:A->AA A->AA Nat->ON
 |.tup a,b,l=>aC a b l
 |a,[b],l=>nL a b l
 |_,_,l=>AC l
def NB:AA Nat->AA Nat->ON
 |[],_=>AC []
 |a::r,bs=>match Nat.beq a 99,bs with
  |true,b::bs'=>(NB r bs').bind λr'=>AC (b::r')
  |true,[]=>(NB r []).bind λr'=>AC (a::r')
  |false,_=>(NB r bs).bind λr'=>AC (a::r')
def bS:AA Nat->AA Nat->ON
 |[],_=>AC []
 |a::r,l=>(bS r l).bind λr'=>match Fb l a with
  |true=>AC r'
  |false=>AC (a::r')
def nC:AA Nat->ON
 |[]=>AC []
 |a::r=>(nC r).bind λr'=>AC (a::r')
def tz(h0:Nat)(rs:Array ResultVar)(env:Env)(H:Qd)(v:A)(Hc:Qd):AB (AA Nat×AA Nat):=(Ra env H rs.toList).bind λp=>(Rc ixL h0 (M4 Hc)).bind λl0=>(t6 v p.1 l0).bind λl1=>(Wk H 0 Hc l1).bind λl2=>(bS p.2.1 l2).bind λbs=>(NB l2 bs).bind λl3=>(Wk H 0 Hc l3).bind λl4=>(NA l4).bind λl=>(nC p.2.2).bind λsl=>AC (l,sl)
theorem na{g:Nat}{E':Env}{β:Type}{e r:β}{w:β->A}{Hc:β->Qd}{π sl:AA Nat}(h:AC e=AC r)(n:tz g fn.results env H (w e) (Hc e)=AC (π,sl))(m:Zn π sl env H=AC (E',H'))
  (k:H'=Hc e)(f:Hg P fn E' H' (w e))(d:π.take g=List.range g)(hH:π.map (λp=>H[p]?)=(H'.map (QW (Ci π H.length))).map AC)(j:Pq π=AE)(hE:Hw (Ci π H.length) env E'):Ja P g fn (RQ w Hc r) .ret env H:=by
 cases h;exact Rx π sl m f ⟨rfl,k⟩ d hH (c7 j) hE
theorem fa{b n i:Nat}{cs:AA A}(hx:lk env b=.ptr i 0)(hH:H[i]?=AC (.cells T cs))(hl:cs.length=n)(ha:∀w,(isAgg t).run P w=.ok AE w)(hs:∀w,(sizeOf t).run P w=.ok n w):Dq P env H (.cell b t) (.agg cs):=Yg ha hs hx hH hl
theorem fY{b i:Nat}{x:A}(hx:lk env b=.ptr i 0)(hH:H[i]?=AC (.cells T [x]))(ha:∀w,(isAgg t).run P w=.ok AD w):Dq P env H (.cell b t) x:=YA ha hx hH
def Rb(l:AA AM):Nat->AA Nat->ON
 |0,S=>AC S
 |j+1,S=>match Fb S j,YH l j with
  |true,AC o=>Rb l j (Qj o++S)
  |_,_=>Rb l j S
def cL(S:AA Nat):Nat->Bool
 |0=>AE
 |j+1=>Fb S j&&cL S j
def b9:Nat->AA AM->Bool
 |_,[]=>AE
 |i,o::r=>Fb (Qj o) i&&b9 (i+1) r
def nM(l:AA AM):Nat->Nat->AA AM->Nat
 |0,c,_=>c
 |_,c,[]=>c
 |f+1,c,o::r=>match b9 c r&&(match Rb l c (Qj o)with
  |some S=>cL S c
  |none=>AD)with
  |true=>c
  |false=>nM l f (c+1) r
def ig(l:AA AM):AB Nat:=match nM l 100 0 l with
 |0=>AF
 |m=>YH ixL m
section
variable {P:AK} {h0 N:Nat} {all:Array AM} {o:AM} {l:AA AM} {env:Env} {H:Qd} {Q:Qz} {d t:Nat} {x y:Operand} {kk:IntKind} {i:Int}
theorem jZ{β:Type}{f:UInt8->AB β}{r:β}{s:AA UInt8}(h:(CJ s i).bind f=AC r)(ho:o.op=.index t x y)(hx:CQ env x=.str s)(hy:CQ env y=.int kk i)(ht:∀w,(underlying t).run P w=.ok .string w)(hg:Yc all o env=AC AE)(hd:o.dst=AC d)(hN:Nat.blt d N=AE)
  (g:∀c,CJ s i=AC c->f c=AC r->WO P h0 N all l (up env d (.int .u8 c.toNat)) H Q):WO P h0 N all (o::l) env H Q:=Bd h λc h1 h2=>vV (sG h1 ht ho hx hy) (g c h1 h2) (Qy hg) hd hN
theorem mM{c:Call}{m n:Int}(ho:o.op=.call c)(hc:c={callee:=.builtin .max,args:= #[x,y],argTypes:=c.argTypes})(hx:CQ env x=.int kk m)(hy:CQ env y=.int kk n)(hg:Yc all o env=AC AE)(hd:o.dst=AC d)(hN:Nat.blt d N=AE)
  (g:WO P h0 N all l (up env d (.int kk (if m<n then n else m))) H Q):WO P h0 N all (o::l) env H Q:=vV (CU.max ho hc hx hy) g (Qy hg) hd hN
theorem mL{c:Call}{m n:Int}(ho:o.op=.call c)(hc:c={callee:=.builtin .min,args:= #[x,y],argTypes:=c.argTypes})(hx:CQ env x=.int kk m)(hy:CQ env y=.int kk n)(hg:Yc all o env=AC AE)(hd:o.dst=AC d)(hN:Nat.blt d N=AE)
  (g:WO P h0 N all l (up env d (.int kk (if n<m then n else m))) H Q):WO P h0 N all (o::l) env H Q:=vV (CU.min ho hc hx hy) g (Qy hg) hd hN
theorem IxU{Z:NH}{β:Type}{f:α->AB β}{r:β}{b n k:Nat}(hZ:Kx P Z)(h:(CJ L i).bind f=AC r)(ho:o.op=.indexAddr t x y)(hx:CQ env x=.osl b 0 n k)(hy:CQ env y=.int kk i)(hn:L.length=n)(ht:Hh Z.sl t=AC (et,k))(hg:Yc all o env=AC AE)(hd:o.dst=AC d)(hN:Nat.blt d N=AE)
  (g:∀v,CJ L i=AC v->f v=AC r->WO P h0 N all l (up env d (.ptr b (i.toNat*k))) H Q):WO P h0 N all (o::l) env H Q:=Bd h λc h1 h2=>by
 obtain⟨q1,q2⟩:=hZ.sl _ (Mk ht);exact vV (Qf h1 hn q1 q2 ho hx hy) (g c h1 h2) (Qy hg) hd hN
theorem LdU{p v:A}{cs:AA A}(ho:o.op=.load t x)(hx:CQ env x=p)(hp:DZ H p (v::cs))(ha:∀w,(isAgg t).run P w=.ok AD w)(hg:Yc all o env=AC AE)(hd:o.dst=AC d)(hN:Nat.blt d N=AE)(g:WO P h0 N all l (up env d v) H Q):WO P h0 N all (o::l) env H Q:=vV (CU.load ho ha hx hp) g (Qy hg) hd hN
theorem ApU{β:Type}{M:AA α}{f:AA α->AB β}{r:β}{c:Call}{T' et' k k' b n:Nat}{ya:A}[E:ElemTy P T et k][E':ElemTy P T' et' k'](h:(app L M).bind f=AC r)(ho:o.op=.call c)(hc:c={callee:=.builtin .append,args:= #[x,y],argTypes:= #[T,T']})(hx:CQ env x=.osl b 0 n k)(hn:L.length=n)(hH:H[b]?=AC (.row et k (L.map e)))(hy:CQ env y=ya)(hs:HP P H ya k (M.map e))
  (hg:Yc all o env=AC AE)(hd:o.dst=AC d)(hN:Nat.blt d N=AE)(hh:Nat.ble h0 H.length=AE)(g:∀v,app L M=AC v->f v=AC r->WO P h0 N all l (up env d (.osl H.length 0 v.length k)) (H.set b .dead++[.row et k (v.map e)]) Q):WO P h0 N all (o::l) env H Q:=Bd h λv h1 h2=>vH (Ql h1 E E'.sl hs hn ho hc hx hH hy) (g v h1 h2) (Qy hg) hd hN hh
end
def Rk:AA Kf->AA Nat->AA Nat
 |[],l=>l
 |.seq c::r,l=>Rk r (NN c l)
 |_::r,l=>Rk r l
def RY(us:AA Nat):AA Nat->AA Nat->ON
 |[],v=>AC v
 |a::r,v=>match Fb us a&& !Fb v a with
  |true=>(Rm a v).bind λv'=>RY us r v'
  |false=>RY us r v
def Pu(az:AA Nat):Env->ON
 |[]=>AC []
 |(s,_)::r=>(Pu az r).bind λl=>match Fb az s||Fb l s with
   |true=>AC l
   |false=>AC (s::l)
def bV(env:Env)(c2:Code)(k:AA Kf):Code->AB (AA Nat×AA Nat)
 |.block _ (.loop _)=>AF
 |.seq _ _=>AF
 |.region _ _ _=>AF
 |c=>(P0 c []).bind λaz=>(RY (Rk k (NN c2 [])) az []).bind λv=>(Pu az env).bind λks=>AC (v,ks)
theorem Un{x:K7}(h:Q x env H):kq P h0 N [] Q x env H:=h
theorem jR{b:β}{H':β->Qd}{x:K7}(h:KI h0 b E' H' Q x env H):KI h0 b E' H' Q x env H:=h
theorem jS{S B:Type}{b:CG S B}{E':S->Env}{Hb:S->Qd}{x:K7}(h:LQ h0 b E' Hb Q x env H):LQ h0 b E' Hb Q x env H:=h
theorem jO{S B:Type}{I:S->Env->Qd->Prop}{d:CG S B}{x:K7}(h:JM I d Q x env H):JM I d Q x env H:=h
theorem bY{b:β}{H':β->Qd}(h:Q .ret env H):KI h0 b E' H' Q .ret env H:=h
instance:EncS Unit:=⟨λ_=>[]⟩
theorem bt{S B:Type}{b:CG S B}{s:S}{E':S->Env}{Hb:S->Qd}(h:AC (CG.k s)=AC b)(g:Le h0 env H (E' s) (Hb s)):LQ h0 b E' Hb Q .normal env H:=J7 (Oi h).symm g
class LookT (P:AK) (T:Nat) {α β:outParam Type} (ek:outParam (α->A)) (ev:outParam (β->A)) (z0:outParam β):Prop where
 c:∃kt et z,JA P kt ek/\P.underlying T=AC (.map kt et)/\(∀w,(zeroValue et).run P w=.ok z w)/\ZR (ev z0) z
section
variable {P:AK} {h0 N:Nat} {all:Array AM} {o:AM} {l:AA AM} {env:Env} {H:Qd} {Q:Qz} {d T i:Nat} {x y z:Operand} {α β γ:Type} [DecidableEq α] {ek:α->A} {ev:β->A} {L:AA (α×β)} {k:α} {z0:β} {r:γ}
theorem dq{f:β->AB γ}[E:LookT P T ek ev z0](h:(AC (Qo L k z0)).bind f=AC r)(ho:o.op=.lookup T x y AD)(hx:CQ env x=.map i)(hH:H[i]?=AC (.map (Qn ek ev L)))(hy:CQ env y=ek k)(hg:Yc all o env=AC AE)(hd:o.dst=AC d)(hN:Nat.blt d N=AE)
  (g:∀v,AC (Qo L k z0)=AC v->f v=AC r->WO P h0 N all l (up env d (ev v)) H Q):WO P h0 N all (o::l) env H Q:=Bd h λv h1 h2=>by
 obtain⟨kt,et,z,q1,q2,q3,q4⟩:=E.c;exact vV (Q6 q1 h1 q2 q3 q4 ho hx hH hy) (g v h1 h2) (Qy hg) hd hN
theorem dn{f:AA (α×β)->AB γ}{v:β}[E:LookT P T ek ev z0](h:(AC (QJ L k v)).bind f=AC r)(ho:o.op=.mapUpdate T x y z)(hx:CQ env x=.map i)(hH:H[i]?=AC (.map (Qn ek ev L)))(hy:CQ env y=ek k)(hv:CQ env z=ev v)(hdt:YJ (ev v)=AE)(hg:Yc all o env=AC AE)(hd:o.dst=AF)(hh:Nat.ble h0 H.length=AE)
  (g:∀m,AC (QJ L k v)=AC m->f m=AC r->WO P h0 N all l env (H.set i (.map (Qn ek ev m))) Q):WO P h0 N all (o::l) env H Q:=Bd h λm h1 h2=>by
 obtain⟨kt,et,z,q1,q2,q3,q4⟩:=E.c;exact vU (Yd q1 h1 hdt q2 ho hx hH hy hv) (g m h1 h2) (Qy hg) hd hh
end
class EncA (β:Type) where
 e:β->A
instance:EncA Bool:=⟨.bool⟩
instance:EncA Int:=⟨.int .i64⟩
inductive LM:{α:Type}->Option α->Prop
 |c {α:Type} {b:Bool} {x y:Option α}:LM (bif b then x else y)
 |b {α β:Type} {x:Option α} {f:α->Option β}:LM (x.bind f)
inductive FOs where
 |mk (l:List Operand)
def nK:AA (Nat×Operand)->FOs
 |[]=>.mk []
 |(_,x)::r=>match nK r with
  |.mk l=>.mk (x::l)
def litX(o:AM):AB (Nat×Nat×AA Operand):=match o.op with
 |.buildSlice T n ⟨ps⟩=>match nK ps with
  |.mk l=>AC (T,n,l)
 |_=>AF
theorem mO{all:Array AM}{o:AM}{e k n d:Nat}{xs:AA Operand}(hq:litX o=AC (T,n,xs))(E:ElemTy P T e k)(ho:o.op=.buildSlice T n (Mi 0 xs).toArray)(hn:xs.length=n)(hsz:Nat.ble (n*(k+1)) 16777216=AE)
  (hk:(xs.all λx=>Yi (CQ env x))=AE)(hes:Q2 env xs=es)(h4:allK k es)(hp:es.flatten.all Yr=AE)(hdt:YI es.flatten=AE)(hg:Yc all o env=AC AE)(hd:o.dst=AC d)(hN:Nat.blt d N=AE)(hh:Nat.ble h0 H.length=AE)
  (g:WO P h0 N all l (up env d (.osl H.length 0 n k)) (H++[.row e k es]) Q):WO P h0 N all (o::l) env H Q:=vH (D3.lit E ho hn hsz hk hes h4 hp hdt) g (Qy hg) hd hN hh
theorem LnS{all:Array AM}{o:AM}{d:Nat}{s:AA UInt8}(q:Ri o env=AC (d,t,.mk (.str s)))(h:∀w,(underlying t).run P w=.ok .string w)(hg:Yc all o env=AC AE)(k:Nat.blt d N=AE)(g:WO P h0 N all l (up env d (.int .i64 s.length)) H Q):WO P h0 N all (o::l) env H Q:=by
 obtain⟨x,j,f,m⟩:=oX q;exact vV (sA f rfl h (QX m)) g (Qy hg) j k
theorem jQ{m:Nat}{r:AA AM}{ds:AA Nat}{K:AA AM->Env->Qd->Prop}{xs:AA A}(h:DS P N m l ds env H K r xs):DS P N m l ds env H K r xs:=h
theorem DsI{m:Nat}{r:AA AM}{o:AM}{ds:AA Nat}{K:AA AM->Env->Qd->Prop}{α:Type}{b:Bool}{x y:AB α}{v:α}{xs xt xf:AA A}{j:Nat}{c:Bool}(hj:o.guard=AC (j,c))(hs:YH xs j=AC (.bool b))(h:(bif b then x else y)=AC v)(ht:NK xs j (.bool AE)=.mk xt)(hf:NK xs j (.bool AD)=.mk xf)
  (t:b=AE->x=AC v->DS P N m l ds env H K (o::r) xt)(e:b=AD->y=AC v->DS P N m l ds env H K (o::r) xf):DS P N m l ds env H K (o::r) xs:=DS.is j h hs ht hf t e
theorem Ug{id:Nat}(g:WO P h0 N ⟨l⟩ l env H Q):TC P h0 N (.region id ⟨l⟩ AD) env H Q:=TC.region g
def fg:Cf->AA Kf->AB (Cf×AA Kf)
 |.code (.block _ (.loop _)),_=>AF
 |.code (.seq a b),k=>AC (.code a,.seq b::k)
 |.code (.block id c),k=>AC (.code c,.blo id::k)
 |.code .skip,k=>AC (.out .normal,k)
 |.code .ret,k=>AC (.out .ret,k)
 |.code (.exit id),k=>AC (.out (.exit id),k)
 |.ops _ [],k=>AC (.out .normal,k)
 |.out .normal,.seq c::k=>AC (.code c,k)
 |.out (.exit i),.seq _::k=>AC (.out (.exit i),k)
 |.out .ret,.seq _::k=>AC (.out .ret,k)
 |.out .normal,.blo _::k=>AC (.out .normal,k)
 |.out (.exit i),.blo id::k=>match Nat.beq i id with
  |true=>AC (.out .normal,k)
  |false=>AC (.out (.exit i),k)
 |.out .ret,.blo _::k=>AC (.out .ret,k)
 |_,_=>AF
def Mz:Nat->Cf->AA Kf->Cf×AA Kf
 |0,c,k=>(c,k)
 |n+1,c,k=>match fg c k with
  |some (c',k')=>Mz n c' k'
  |none=>(c,k)
def Wx(c:Cf)(k:AA Kf):AB (Cf×AA Kf):=match fg c k with
 |some (c',k')=>AC (Mz 100 c' k')
 |none=>AF
variable {c':Cf}{k':AA Kf}
section
variable {P:AK} {h0 N:Nat} {Q:Qz} {env:Env} {H:Qd}
theorem qA{c d:Cf}{k f:AA Kf}(h:fg c k=AC (d,f))(g:Hd P h0 N d f env H Q):Hd P h0 N c k env H Q:=by
 unfold fg at h;split at h
 .cases h
 .cases h;exact TC.seq g
 .cases h;exact TC.block g
 .cases h;exact TC.skip g
 .cases h;exact TC.ret g
 .cases h;exact TC.exit g
 .cases h;exact WO.nil g
 .cases h;exact Zl g
 .cases h;exact Zj g
 .cases h;exact Zk g
 .cases h;exact cG g
 .split at h
  .rename_i q;cases h;have:=XQ q;subst this;exact cH g
  .rename_i q;cases h;exact cC q g
 .cases h;exact cF g
 .cases h
theorem ou:∀(n:Nat) {c c':Cf} {k k':AA Kf},Mz n c k=(c',k')->Hd P h0 N c' k' env H Q->Hd P h0 N c k env H Q
 |0,c,c',k,k',h,g=>by cases h;exact g
 |n+1,c,c',k,k',h,g=>by
  unfold Mz at h;split at h
  .rename_i e;exact qA e (ou n h g)
  .cases h;exact g
theorem gz{c d:Cf}{k f:AA Kf}(h:Wx c k=AC (d,f))(g:Hd P h0 N d f env H Q):Hd P h0 N c k env H Q:=by
 unfold Wx at h;split at h
 .rename_i e;exact qA e (ou 100 (XZ h) g)
 .cases h
theorem Uc{k:AA Kf}{c:Code}(h:Wx (.code c) k=AC (c',k'))(g:Hd P h0 N c' k' env H Q):TC P h0 N c env H (kq P h0 N k Q):=gz h g
theorem U0{c:Code}(h:Wx (.code c) []=AC (c',k'))(g:Hd P h0 N c' k' env H Q):TC P h0 N c env H Q:=gz (k:=[]) h g
theorem Ux{k:AA Kf}{x:K7}(h:Wx (.out x) k=AC (c',k'))(g:Hd P h0 N c' k' env H Q):kq P h0 N k Q x env H:=gz h g
theorem Uo{k:AA Kf}{all:Array AM}(h:Wx (.ops all l) k=AC (c',k'))(g:Hd P h0 N c' k' env H Q):WO P h0 N all l env H (kq P h0 N k Q):=gz h g
end
abbrev Ea:=@Ev.bind
abbrev Ec:=@Dh.keep
abbrev Ed:=@G8.cons
abbrev Ee:=@DM.refl
abbrev Ef:=@TC.le
abbrev Eg:=@PL.cons
abbrev Eh:=@DS.done
abbrev Ei:=@Ev.and
abbrev Ej:=@DW.done
abbrev Ek:=@G8.refl
abbrev El:=@D3.lit
abbrev Em:=@RF.cons
abbrev En:=@RF.c1
abbrev Eo:=@Le.trans
abbrev Ep:=@ZR.int
abbrev Er:=@DM.o
abbrev Et:=@Le.phantom
abbrev Eu:=@WO.le
abbrev Ew:=@Ev.eq
abbrev Ex:=@DW.cont
abbrev Ey:=@DK.op
abbrev Ez:=@Io.store
abbrev EA:=@CU.load
abbrev EB:=@Ev.const
theorem Zf.{u,v}{α:Sort u}{β:Sort v}{f:α->β}:∀x,f x=f x:=λ_=>rfl
abbrev Ze.{u,v}{α:Sort u}{β:Type v}:α->AA β:=λ_=>[]
end Go.Sw
